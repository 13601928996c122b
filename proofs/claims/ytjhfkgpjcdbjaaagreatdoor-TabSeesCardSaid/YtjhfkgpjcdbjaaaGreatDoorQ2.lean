/- The parts SyO. -/
import Derived.Test.YtjhfkgpjcdbjaaaGreatDoorQ1
set_option maxRecDepth 100000
namespace Go.Proofs.YtjhfkgpjcdbjaaaGreatDoor
open Go.RowKit
class Fz where
 on:Bool
 gl:Option Value:=none
def U6 [Fz] (w:World) (g:Nat):Prop:=Fz.on=true/\U64 w g
theorem U6.lt [Fz]{w:World}{g:Nat}(h:U6 w g):g<w.heap.size:=U64.lt h.2
def uT [Fz] (T:TypeId):Prop:=Fz.on=true/\T=177
instance [Fz] (T:TypeId):Decidable (uT T):=inferInstanceAs (Decidable (_/\_))
abbrev Eta:=Nat->Nat->Option Value
inductive SV where
 | any
 | ex (v:Value)
 | nat (x:Nat)
 | int (z:Int)
 | rat (q:Rat)
 | sl (s:Nat) (E:Nat->SV) (n:Nat)
 | ep (a:SV)
 | own (k i:Nat)
 | ref (k i s j off:Nat)
 | nl
 | cn (a b:SV)
 | agg (l:SV)
 | opt (c:Bool) (a:SV)
 | ifc (T:TypeId) (a:SV)
 | alt (c:Bool) (a b:SV)
def hb:Value->Option Nat
 | .pointer (some a)=>some a.block
 | .slice (some a) _ _=>some a.block
 | _=>none
def One (e:Value):Prop:=∀u∈e.cells.toList,u.oneCell'=true
def flat (vs:List Value):List Value:=vs.flatMap λv=>v.cells.toList
def SV.R [Fz]:SV->Eta->(Nat->Prop)->World->Value->Prop
 | .any,_,_,_,_=>True
 | .ex u,_,_,_,v=>v=u
 | .nat x,_,_,w,v=>NatAt (λ_=>False) w v x/\Fz.on=true
 | .int z,_,_,w,v=>IntAt (λ_=>False) w v z/\Fz.on=true
 | .rat q,_,_,w,v=>RatAt (λ_=>False) w v q/\Fz.on=true
 | .sl s E n, η, A, w, v => ∃ A0 c, v = .slice A0 n c /\ Nilled A0 n c /\ n <= c /\ c <= maxLen /\ ∀ i, i < n -> ∃ g o, A0 = some ⟨g, o, none⟩ /\ ¬ A g /\ g < w.heap.size /\
   ∃e:Value,(e.cells.size=s/\One e)/\(E i).R η A w e/\∀j u,e.cells[j]?=some u->w.cell? ⟨g,(o+s*i)+j,none⟩=some u
 | .ep a,η,A,w,v=>∃g o,v=.pointer (some ⟨g,o,none⟩)/\¬A g/\g<w.heap.size/\∃e:Value,a.R η A w e/\∀j u,e.cells[j]?=some u->w.cell? ⟨g,o+j,none⟩=some u
 | .own k i,η,_,_,v=>η k i=some v/\v.oneCell'=true
 | .ref k i s j off,η,_,_,v=>∃h b,η k i=some h/\hb h=some b/\v=.pointer (some ⟨b,s*j+off,none⟩)
 | .nl,_,_,_,v=>v=.tuple #[]
 | .cn a b,η,A,w,v=>∃x xs,v=.tuple (x::xs).toArray/\a.R η A w x/\b.R η A w (.tuple xs.toArray)
 | .agg l,η,A,w,v=>∃vs:List Value,v=.agg (flat vs).toArray/\l.R η A w (.tuple vs.toArray)
 | .opt c a,η,A,w,v=>(c=true->a.R η A w v)/\(c=false->v=undef)
 | .ifc T a,η,A,w,v=>∃u,v=.iface T u/\a.R η A w u
 | .alt c a b,η,A,w,v=>(c=true->a.R η A w v)/\(c=false->b.R η A w v)
structure Keep [Fz] (η η':Eta) (A A':Nat->Prop) (w w':World):Prop where
 eta:∀k i v,η k i=some v->η' k i=some v
 size:w.heap.size<=w'.heap.size
 u64:∀k,U6 w k->w'.heap[k]?=w.heap[k]?
 blk:∀g,g<w.heap.size->¬A g->w'.heap[g]?=w.heap[g]?
 avoid:∀g,g<w.heap.size->¬A g->¬A' g
section
variable {η η' η'':Eta} {A A' A'':Nat->Prop} {w w' w'':World}
theorem Keep.ext0 [Fz](h:Keep η η' A A' w w')(on:Fz.on=true):Ext 0 w w':=⟨h.size,λk hk=>h.u64 k ⟨on,hk⟩,λk hk=>by omega⟩
theorem SV.keep [Fz](h:Keep η η' A A' w w'):∀(a:SV) (v:Value),a.R η A w v->a.R η' A' w' v:=by
 intro a
 induction a with
 | any=>intro v _;trivial
 | ex u=>intro v hv;exact hv
 | nat x=>intro v hv;exact⟨NatAt.ext hv.1 (h.ext0 hv.2),hv.2⟩
 | int z=>intro v hv;exact⟨IntAt.ext hv.1 (h.ext0 hv.2),hv.2⟩
 | rat q=>intro v hv;exact⟨RatAt.ext hv.1 (h.ext0 hv.2),hv.2⟩
 | sl s E n ih=>
  rintro v ⟨A0,c,e,h1,h2,h3,k⟩
  refine⟨A0,c,e,h1,h2,h3,λi hi=>?_⟩
  obtain⟨g,o,ea,hf,hl,e0,hs,hr,hc⟩:=k i hi
  exact⟨g,o,ea,h.avoid g hl hf,Nat.lt_of_lt_of_le hl h.size,e0,hs,ih i _ hr,λj u hj=>(World.cell?_of_block (w:=w) (h.blk g hl hf)).trans (hc j u hj)⟩
 | ep a ih=>
  rintro v ⟨g,o,ea,hf,hl,e0,hr,hc⟩
  exact⟨g,o,ea,h.avoid g hl hf,Nat.lt_of_lt_of_le hl h.size,e0,ih _ hr,λj u hj=>(World.cell?_of_block (w:=w) (h.blk g hl hf)).trans (hc j u hj)⟩
 | own k i=>intro v hv;exact⟨h.eta k i v hv.1,hv.2⟩
 | ref k i s j off=>
  rintro v ⟨hd,b,h1,h2,h3⟩
  exact⟨hd,b,h.eta k i hd h1,h2,h3⟩
 | nl=>intro v hv;exact hv
 | cn a b iha ihb=>
  rintro v ⟨x,xs,e,h1,h2⟩
  exact⟨x,xs,e,iha _ h1,ihb _ h2⟩
 | agg l ih=>
  rintro v ⟨vs,e,h1⟩
  exact⟨vs,e,ih _ h1⟩
 | opt c a ih=>
  intro v hv
  exact⟨λhc=>ih _ (hv.1 hc),hv.2⟩
 | ifc T a ih=>
  rintro v ⟨u,e,h1⟩
  exact⟨u,e,ih _ h1⟩
 | alt c a b iha ihb=>
  rintro v ⟨h1,h2⟩
  exact⟨λhc=>iha _ (h1 hc),λhc=>ihb _ (h2 hc)⟩
theorem Keep.trans [Fz](h:Keep η η' A A' w w')(k:Keep η' η'' A' A'' w' w''):Keep η η'' A A'' w w'' where
 eta:=λi j v hv=>k.eta i j v (h.eta i j v hv)
 size:=Nat.le_trans h.size k.size
 u64:=λg hg=>(k.u64 g (by obtain⟨on,cs,m,e⟩:=hg;exact⟨on,cs,m,(h.u64 g ⟨on,cs,m,e⟩).trans e⟩)).trans (h.u64 g hg)
 blk:=λg hg ha=>(k.blk g (Nat.lt_of_lt_of_le hg h.size) (h.avoid g hg ha)).trans (h.blk g hg ha)
 avoid:=λg hg ha=>k.avoid g (Nat.lt_of_lt_of_le hg h.size) (h.avoid g hg ha)
theorem Keep.weak [Fz](h:∀g,g<w.heap.size->¬A g->¬A' g):Keep η η A A' w w:=⟨λ_ _ _ e=>e,Nat.le_refl _,λ_ _=>rfl,λ_ _ _=>rfl,h⟩
end
inductive OB where
 | var (T:TypeId) (a:SV) (b:Option Nat:=none)
 | row (T:TypeId) (s:Nat) (E:Nat->SV) (n:Nat)
def EltS [Fz] (a:SV) (η:Eta) (A:Nat->Prop) (w:World) (g o s:Nat):Prop:=∃e:Value,(e.cells.size=s/\One e)/\a.R η A w e/\∀j u,e.cells[j]?=some u->w.cell? ⟨g,o+j,none⟩=some u
def OB.ok [Fz]:OB->Eta->(Nat->Prop)->World->Value->Prop
 | .var T a ob,η,A,w,h=>∃b v,h=.pointer (some ⟨b,0,none⟩)/\Blk w b T v.cells/\a.R η A w v/\(¬uT T/\∀b0,ob=some b0->b=b0)
 | .row T s E n,η,A,w,h=>∃A0 c,h=.slice A0 n c/\n<=c/\c<=maxLen/\¬uT T/\((A0=none/\n=0/\c=0)∨∃g cs,A0=some ⟨g,0,none⟩/\Blk w g T cs/\cs.size=s*c/\∀i,i<n->EltS (E i) η A w g (s*i) s)
inductive Hl where
 | unborn
 | dead
 | one (o:OB)
 | fam (n:Nat) (f:Nat->OB)
 | hole (n:Nat) (f:Nat->OB) (m:Nat)
def Hl.get:Hl->Nat->Option OB
 | .one o,0=>some o
 | .fam n f,i=>if i<n then some (f i) else none
 | .hole n f m,i=>if i<n/\i≠m then some (f i) else none
 | _,_=>none
def Hl.out:Hl->Nat->Prop
 | .unborn,_=>True
 | .one _,i=>i≠0
 | .fam n _,i=>n<=i
 | .hole n _ _,i=>n<=i
 | _,_=>False
def Hl.gs:Hl->Nat->Option OB×List Prop
 | .one o,0=>(some o,[])
 | .fam n f,i=>(some (f i),[i<n])
 | .hole n f m,i=>(some (f i),[i<n,i≠m])
 | _,_=>(none,[])
structure Alt (c c':Hl) (i:Nat) (o':OB):Prop where
 a:∀j o1,c'.get j=some o1->(j=i/\o1=o')∨(j≠i/\c.get j=some o1)
 b:∀j o2,c.get j=some o2->∃o1,c'.get j=some o1
 u:∀j,c'.out j->c.out j
theorem xK [Fz]{n:Nat}{f:Nat->OB}{i:Nat}:(Hl.fam n f).get i=if i<n then some (f i) else none:=by cases i<;>rfl
theorem jI [Fz]{n m:Nat}{f:Nat->OB}{i:Nat}:(Hl.hole n f m).get i=if i<n/\i≠m then some (f i) else none:=by cases i<;>rfl
theorem Alt.one [Fz]{o o':OB}:Alt (.one o) (.one o') 0 o':=by
 refine⟨λj o1 h=>?_,λj o2 h=>?_,λ_ e=>e⟩
 ·cases j with
  | zero=>exact .inl ⟨rfl,(Option.some.inj h).symm⟩
  | succ j=>cases h
 ·cases j with
  | zero=>exact⟨_,rfl⟩
  | succ j=>cases h
theorem Alt.fam [Fz]{n i:Nat}{f f':Nat->OB}{o':OB}(h1:f' i=o')(h2:∀t,t<n->t≠i->f' t=f t):Alt (.fam n f) (.fam n f') i o':=by
 refine⟨λj o1 h=>?_,λj o2 h=>?_,λ_ e=>e⟩
 ·rw[xK] at h
  split at h
  ·rename_i hj
   have e:=Option.some.inj h
   by_cases hji:j=i
   ·subst hji;exact .inl ⟨rfl,e.symm.trans h1⟩
   ·refine .inr ⟨hji,?_⟩
    rw[xK,if_pos hj,←e,h2 j hj hji]
  ·cases h
 ·rw[xK] at h
  split at h
  ·rename_i hj;exact⟨f' j,by rw[xK,if_pos hj]⟩
  ·cases h
section
variable {η η':Eta} {A A':Nat->Prop} {w w':World} {o:OB} {h:Value} {g b off s:Nat}
theorem EltS.keep [Fz]{a:SV}(k:EltS a η A w g off s)(K:Keep η η' A A' w w')(hg:w'.heap[g]?=w.heap[g]?):EltS a η' A' w' g off s:=by
 obtain⟨e,hs,hr,hc⟩:=k
 exact⟨e,hs,SV.keep K _ _ hr,λj u hj=>(World.cell?_of_block (w:=w) hg).trans (hc j u hj)⟩
theorem OB.blk_lt [Fz](k:o.ok η A w h)(hb':hb h=some b):b<w.heap.size/\¬U6 w b:=by
 have key:∀{T cs},Blk w b T cs->¬uT T->b<w.heap.size/\¬U6 w b:=λ{T cs} hb hT=>⟨hb.lt,λ⟨on,cs',m,hk⟩=>by
  unfold Blk at hb
  rw[hb] at hk
  simp only[Option.some.injEq,Obj.cells.injEq] at hk
  exact hT ⟨on,hk.2.1⟩⟩
 cases o with
 | var T a ob=>
  obtain⟨b',v,rfl,hB,_,hT⟩:=k
  simp only[hb,Option.some.injEq] at hb'
  subst hb'
  exact key hB hT.1
 | row T s E n=>
  obtain⟨A0,c,rfl,_,_,hT,h3⟩:=k
  rcases h3 with⟨rfl,_,_⟩ | ⟨g,cs,rfl,hB,_,_⟩
  ·cases hb'
  ·simp only[hb,Option.some.injEq] at hb'
   subst hb'
   exact key hB hT
theorem OB.keep [Fz](k:o.ok η A w h)(K:Keep η η' A A' w w')(hg:∀b,hb h=some b->w'.heap[b]?=w.heap[b]?):o.ok η' A' w' h:=by
 cases o with
 | var T a ob=>
  obtain⟨b',v,rfl,hB,hr,hT⟩:=k
  exact⟨b',v,rfl,(hg b' rfl).trans hB,SV.keep K _ _ hr,hT⟩
 | row T s E n=>
  obtain⟨A0,c,rfl,h1,h2,hT,h3⟩:=k
  refine⟨A0,c,rfl,h1,h2,hT,h3.imp id λ⟨g,cs,ea,hB,hs,he⟩=>?_⟩
  subst ea
  exact⟨g,cs,rfl,(hg g rfl).trans hB,hs,λi hi=>(he i hi).keep K (hg g rfl)⟩
theorem OB.hdr [Fz](k:o.ok η A w h):h.oneCell'=true:=by
 cases o with
 | var T a ob=>obtain⟨b',v,rfl,_⟩:=k;rfl
 | row T s E n=>obtain⟨A0,c,rfl,_⟩:=k;rfl
end
def Av (F:Nat->Prop) (own:Nat->Hl) (η:Eta):Nat->Prop:=λb=>F b∨∃k i o h,(own k).get i=some o/\η k i=some h/\hb h=some b
structure ModM [Fz] (M:Nat->Prop) (w w':World):Prop where
 os:w'.os=w.os
 tape:w'.tape=w.tape
 output:w'.output=w.output
 size:w.heap.size<=w'.heap.size
 low:∀b,b<w.heap.size->¬M b->w'.heap[b]?=w.heap[b]?
 u64:∀b,U6 w b->w'.heap[b]?=w.heap[b]?
theorem ModM.refl [Fz](M:Nat->Prop)(w:World):ModM M w w:=⟨rfl,rfl,rfl,Nat.le_refl _,λ_ _ _=>rfl,λ_ _=>rfl⟩
theorem ModM.trans [Fz]{M:Nat->Prop}{a b c:World}(h:ModM M a b)(k:ModM M b c):ModM M a c where
 os:=k.os.trans h.os
 tape:=k.tape.trans h.tape
 output:=k.output.trans h.output
 size:=Nat.le_trans h.size k.size
 low:=λg hg hm=>(k.low g (Nat.lt_of_lt_of_le hg h.size) hm).trans (h.low g hg hm)
 u64:=λg hg=>(k.u64 g (by obtain⟨on,cs,m,e⟩:=hg;exact⟨on,cs,m,(h.u64 g ⟨on,cs,m,e⟩).trans e⟩)).trans (h.u64 g hg)
theorem ModM.of_grow [Fz]{M:Nat->Prop}{a b:World}(h:Grow a b):ModM M a b:=⟨h.os,h.tape,h.output,h.size,λg hg _=>h.block g hg,λg hg=>h.block g hg.lt⟩
theorem ModM.grow [Fz]{a b:World}(h:ModM (λ_=>False) a b):Grow a b:=⟨h.os,h.tape,h.output,h.size,λg hg=>h.low g hg id⟩
def Gl [Fz] (w:World):Prop:=∀v,Fz.gl=some v->0<w.heap.size/\w.cell? ⟨0,0,none⟩=some v
structure Fl [Fz] (F:Nat->Prop) (w:World):Prop where
 lt:∀b,F b->b<w.heap.size
 gl:Gl w
structure Hp [Fz] (M F:Nat->Prop) (w0:World) (own:Nat->Hl) (η:Eta) (w:World):Prop where
 mod:ModM M w0 w
 ob:∀k i o,(own k).get i=some o->∃h,η k i=some h/\o.ok η (Av F own η) w h
 low:∀k i o h b,(own k).get i=some o->η k i=some h->hb h=some b->(w0.heap.size<=b∨M b)/\¬F b
 apart:∀k i o k' i' o' h h' b,(own k).get i=some o->(own k').get i'=some o'->η k i=some h->η k' i'=some h'->hb h=some b->hb h'=some b->k=k'/\i=i'
 born:∀k i,(own k).out i->η k i=none
 fl:∀b,F b->b<w0.heap.size
 gl:Gl w0/\(Fz.gl≠none->¬M 0)
def zY (own:Nat->Hl) (k:Nat) (c:Hl):Nat->Hl:=λj=>if j=k then c else own j
def yO (η:Eta) (k:Nat) (f:Nat->Option Value):Eta:=λj=>if j=k then f else η j
section
variable {M F:Nat->Prop} {w0 w w':World} {own own':Nat->Hl} {η η':Eta}
theorem Hp.av_lt [Fz](H:Hp M F w0 own η w){b:Nat}(h:Av F own η b):b<w.heap.size:=by
 rcases h with h | ⟨k,i,o,h,h1,h2,h3⟩
 ·exact Nat.lt_of_lt_of_le (H.fl b h) H.mod.size
 ·obtain⟨h',e,hok⟩:=H.ob k i o h1
  rw[h2] at e
  obtain rfl:=Option.some.inj e
  exact(OB.blk_lt hok h3).1
theorem Hp.glw [Fz](H:Hp M F w0 own η w):Gl w:=λv e=>by
 obtain⟨h1,h2⟩:=H.gl
 obtain⟨h3,h4⟩:=h1 v e
 exact⟨Nat.lt_of_lt_of_le h3 H.mod.size,(World.cell?_of_block (w:=w0) (H.mod.low 0 h3 (h2 (by rw[e];exact λh=>by cases h)))).trans h4⟩
theorem Hp.grow [Fz](H:Hp M F w0 own η w)(g:Grow w w'):Hp M F w0 own η w'/\Keep η η (Av F own η) (Av F own η) w w':=by
 have K:Keep η η (Av F own η) (Av F own η) w w':=⟨λ_ _ _ e=>e,g.size,λk hk=>g.block k hk.lt,λk hk _=>g.block k hk,λ_ _ e=>e⟩
 refine⟨⟨H.mod.trans (.of_grow g),λk i o hk=>?_,H.low,H.apart,H.born,H.fl,H.gl⟩,K⟩
 obtain⟨h,e,hok⟩:=H.ob k i o hk
 exact⟨h,e,OB.keep hok K λb hb=>g.block b (OB.blk_lt hok hb).1⟩
theorem at_up_ne [Fz]{k j i:Nat}{c:Hl}(h:j≠k):(zY own k c j).get i=(own j).get i:=by unfold zY;rw[if_neg h]
theorem Hp.drop [Fz](H:Hp M F w0 own η w)(own':Nat->Hl)(h:∀k i o,(own' k).get i=some o->(own k).get i=some o)(hu:∀k i,(own' k).out i->(own k).out i):
  Hp M F w0 own' η w/\Keep η η (Av F own η) (Av F own' η) w w:=by
 have hav:∀b,Av F own' η b->Av F own η b:=λb hb=>hb.imp id λ⟨k,i,o,hd,h1,h2⟩=>⟨k,i,o,hd,h _ _ _ h1,h2⟩
 have K:Keep η η (Av F own η) (Av F own' η) w w:=Keep.weak λg _ hg hg'=>hg (hav g hg')
 refine⟨⟨H.mod,λk i o hk=>?_,λk i o hd b hk=>H.low k i o hd b (h _ _ _ hk),λk i o k' i' o' hd hd' b h1 h2=>H.apart k i o k' i' o' hd hd' b (h _ _ _ h1) (h _ _ _ h2),λk i hk=>H.born k i (hu k i hk),H.fl,H.gl⟩,K⟩
 obtain⟨hd,e,hok⟩:=H.ob k i o (h _ _ _ hk)
 exact⟨hd,e,OB.keep hok K λ_ _=>rfl⟩
theorem Hp.add [Fz](H:Hp M F w0 own η w)(g:Grow w w'){k:Nat}{o:OB}{h:Value}(hk:own k=.unborn)
  (hn:∀b,hb h=some b->w.heap.size<=b)
  (hok:Keep η (yO η k λi=>if i=0 then some h else none) (Av F own η) (Av F (zY own k (.one o)) (yO η k λi=>if i=0 then some h else none)) w w'->o.ok (yO η k λi=>if i=0 then some h else none) (Av F (zY own k (.one o)) (yO η k λi=>if i=0 then some h else none)) w' h):
  Hp M F w0 (zY own k (.one o)) (yO η k λi=>if i=0 then some h else none) w'/\Keep η (yO η k λi=>if i=0 then some h else none) (Av F own η) (Av F (zY own k (.one o)) (yO η k λi=>if i=0 then some h else none)) w w':=by
 have hle:∀j i v,η j i=some v->(yO η k λi=>if i=0 then some h else none) j i=some v:=λj i v hv=>by
  unfold yO
  split
  ·rename_i e;subst e;rw[H.born j i (by rw[hk];trivial)] at hv;cases hv
  ·exact hv
 have hne:∀j i o',j≠k->(zY own k (.one o) j).get i=some o'->(own j).get i=some o':=λj i o' hj hh=>by rwa [at_up_ne hj] at hh
 have hself:∀i o',(zY own k (.one o) k).get i=some o'->i=0/\o'=o:=λi o' hh=>by
  unfold zY at hh
  rw[if_pos rfl] at hh
  cases i with
  | zero=>exact⟨rfl,(Option.some.inj hh).symm⟩
  | succ i=>cases hh
 have heta:∀j i v,j≠k->(yO η k λi=>if i=0 then some h else none) j i=some v->η j i=some v:=λj i v hj hv=>by
  unfold yO at hv
  rwa [if_neg hj] at hv
 have hek:∀v,(yO η k λi=>if i=0 then some h else none) k 0=some v->v=h:=λv hv=>by
  unfold yO at hv
  rw[if_pos rfl] at hv
  exact(Option.some.inj hv).symm
 have hav:∀b,b<w.heap.size->¬Av F own η b->¬Av F (zY own k (.one o)) (yO η k λi=>if i=0 then some h else none) b:=λb hb ha hx=>by
  rcases hx with hx | ⟨j,i,o',hd,h1,h2,h3⟩
  ·exact ha (.inl hx)
  ·by_cases e:j=k
   ·subst e
    obtain⟨rfl,rfl⟩:=hself i o' h1
    obtain rfl:=hek hd h2
    have:=hn b h3
    omega
   ·exact ha (.inr ⟨j,i,o',hd,hne j i o' e h1,heta j i hd e h2,h3⟩)
 have K:Keep η (yO η k λi=>if i=0 then some h else none) (Av F own η) (Av F (zY own k (.one o)) (yO η k λi=>if i=0 then some h else none)) w w':=⟨hle,g.size,λj hj=>g.block j hj.lt,λj hj _=>g.block j hj,hav⟩
 have hltw:∀j i o' hd b,(own j).get i=some o'->η j i=some hd->hb hd=some b->b<w.heap.size:=λj i o' hd b h1 h2 h3=>by
  obtain⟨hd',e,hk'⟩:=H.ob j i o' h1
  rw[h2] at e
  obtain rfl:=Option.some.inj e
  exact((OB.blk_lt hk') h3).1
 refine⟨⟨H.mod.trans (.of_grow g),λj i o' hj=>?_,λj i o' hd b hj he hb=>?_,λj i o1 j' i' o2 h1 h2 b a1 a2 e1 e2 b1 b2=>?_,λj i hj=>?_,H.fl,H.gl⟩,K⟩
 ·by_cases e:j=k
  ·subst e
   obtain⟨rfl,rfl⟩:=hself i o' hj
   exact⟨h,by unfold yO;rw[if_pos rfl];rfl,hok K⟩
  ·obtain⟨hd,e1,hk1⟩:=H.ob j i o' (hne j i o' e hj)
   exact⟨hd,hle _ _ _ e1,OB.keep hk1 K λb hb=>g.block b (OB.blk_lt hk1 hb).1⟩
 ·by_cases e:j=k
  ·subst e
   obtain⟨rfl,rfl⟩:=hself i o' hj
   obtain rfl:=hek hd he
   have:=hn b hb
   exact⟨.inl (Nat.le_trans H.mod.size this),λhF=>by have:=H.fl b hF;have:=H.mod.size;omega⟩
  ·exact H.low j i o' hd b (hne j i o' e hj) (heta j i hd e he) hb
 ·by_cases e:j=k
  ·by_cases e':j'=k
   ·subst e;subst e'
    exact⟨rfl,(hself i o1 a1).1.trans (hself i' o2 a2).1.symm⟩
   ·subst e
    obtain⟨rfl,rfl⟩:=hself i o1 a1
    obtain rfl:=hek h1 e1
    have:=hn b b1
    have:=hltw j' i' o2 h2 b (hne j' i' o2 e' a2) (heta j' i' h2 e' e2) b2
    omega
  ·by_cases e':j'=k
   ·subst e'
    obtain⟨rfl,rfl⟩:=hself i' o2 a2
    obtain rfl:=hek h2 e2
    have:=hn b b2
    have:=hltw j i o1 h1 b (hne j i o1 e a1) (heta j i h1 e e1) b1
    omega
   ·exact H.apart j i o1 j' i' o2 h1 h2 b (hne j i o1 e a1) (hne j' i' o2 e' a2) (heta j i h1 e e1) (heta j' i' h2 e' e2) b1 b2
 ·unfold zY at hj
  unfold yO
  split at hj
  ·rename_i e
   rw[if_pos e]
   exact if_neg hj
  ·rename_i e
   rw[if_neg e]
   exact H.born j i hj
theorem Hp.change [Fz](H:Hp M F w0 own η w){k i:Nat}{o o':OB}{h:Value}{c':Hl}(hc:Alt (own k) c' i o')(hk:(own k).get i=some o)(he:η k i=some h)
  (psize:w'.heap.size=w.heap.size)(pother:∀b,hb h≠some b->w'.heap[b]?=w.heap[b]?)(pos:w'.os=w.os)(ptape:w'.tape=w.tape)(pout:w'.output=w.output)(hok:Keep η η (Av F own η) (Av F own η) w w'->o'.ok η (Av F own η) w' h):
  Hp M F w0 (zY own k c') η w'/\Keep η η (Av F own η) (Av F (zY own k c') η) w w':=by
 obtain⟨h',e1,hok0⟩:=H.ob k i o hk
 rw[he] at e1
 obtain rfl:=Option.some.inj e1
 have hnu:∀b,hb h=some b->¬U6 w b:=λb hb0=>(OB.blk_lt hok0 hb0).2
 have hmem:∀j i' o1,(zY own k c' j).get i'=some o1->(∃o2,(own j).get i'=some o2)/\(j=k->i'=i->o1=o')/\(¬(j=k/\i'=i)->(own j).get i'=some o1):=λj i' o1 hj=>by
  by_cases e:j=k
  ·subst e
   unfold zY at hj
   rw[if_pos rfl] at hj
   rcases hc.a i' o1 hj with⟨rfl,rfl⟩ | ⟨e1,e2⟩
   ·exact⟨⟨_,hk⟩,λ_ _=>rfl,λhn=>absurd ⟨rfl,rfl⟩ hn⟩
   ·exact⟨⟨_,e2⟩,λ_ e=>absurd e e1,λ_=>e2⟩
  ·rw[at_up_ne e] at hj
   exact⟨⟨_,hj⟩,λe'=>absurd e' e,λ_=>hj⟩
 have hat:∀j i' o2,(own j).get i'=some o2->∃o1,(zY own k c' j).get i'=some o1:=λj i' o2 hj=>by
  by_cases e:j=k
  ·subst e
   unfold zY
   rw[if_pos rfl]
   exact hc.b i' o2 hj
  ·exact⟨o2,by rw[at_up_ne e];exact hj⟩
 have havi:∀b,Av F (zY own k c') η b↔Av F own η b:=λb=>⟨λhx=>hx.imp id λ⟨j,i',o1,hd,a1,a2⟩=>by
   obtain⟨⟨o2,a3⟩,_⟩:=hmem j i' o1 a1
   exact⟨j,i',o2,hd,a3,a2⟩,λhx=>hx.imp id λ⟨j,i',o1,hd,a1,a2⟩=>by
   obtain⟨o2,a3⟩:=hat j i' o1 a1
   exact⟨j,i',o2,hd,a3,a2⟩⟩
 have have':Av F (zY own k c') η=Av F own η:=funext λb=>propext (havi b)
 have K:Keep η η (Av F own η) (Av F own η) w w':=⟨λ_ _ _ e=>e,by rw[psize];exact Nat.le_refl _,λj hj=>pother j λe=>hnu j e hj,λj _ hj=>pother j λe=>hj (.inr ⟨k,i,o,h,hk,he,e⟩),λ_ _ e=>e⟩
 rw[have']
 refine⟨⟨⟨pos.trans H.mod.os,ptape.trans H.mod.tape,pout.trans H.mod.output,by rw[psize];exact H.mod.size,λb hb0 hM=>(pother b λe=>?_).trans (H.mod.low b hb0 hM),λb hb0=>(pother b λe=>?_).trans (H.mod.u64 b hb0)⟩,λj i' o1 hj=>?_,λj i' o1 hd b hj=>?_,λj i1 o1 j' i2 o2 h1 h2 b a1 a2=>?_,λj i' hj=>?_,H.fl,H.gl⟩,K⟩
 ·rcases(H.low k i o h b hk he e).1 with e | e
  ·omega
  ·exact hM e
 ·obtain⟨on,cs,m,e'⟩:=hb0
  exact hnu b e ⟨on,cs,m,(H.mod.u64 b ⟨on,cs,m,e'⟩).trans e'⟩
 ·rw[have']
  obtain⟨⟨o2,a2⟩,a3,a4⟩:=hmem j i' o1 hj
  by_cases e:j=k/\i'=i
  ·obtain⟨rfl,rfl⟩:=e
   rw[a3 rfl rfl]
   exact⟨h,he,hok K⟩
  ·obtain⟨hd,e1,hk1⟩:=H.ob j i' o1 (a4 e)
   refine⟨hd,e1,OB.keep hk1 K λb hb=>pother b λe'=>?_⟩
   exact e (H.apart j i' o1 k i o hd h b (a4 e) hk e1 he hb e')
 ·obtain⟨⟨o2,a2⟩,_⟩:=hmem j i' o1 hj
  exact H.low j i' o2 hd b a2
 ·obtain⟨⟨o3,a3⟩,_⟩:=hmem j i1 o1 a1
  obtain⟨⟨o4,a4⟩,_⟩:=hmem j' i2 o2 a2
  exact H.apart j i1 o3 j' i2 o4 h1 h2 b a3 a4
 ·refine H.born j i' ?_
  unfold zY at hj
  split at hj
  ·rename_i e;subst e;exact hc.u i' hj
  ·exact hj
def Hl.kill:Hl->Nat->Hl
 | .one _,_=>.dead
 | .fam n f,i=>.hole n f i
 | .hole ..,_=>.dead
 | x,_=>x
theorem kill_get [Fz]{c:Hl}{i j:Nat}{o:OB}(h:(c.kill i).get j=some o):c.get j=some o/\∀o',c.get i=some o'->j≠i:=by
 cases c with
 | unborn=>cases j<;>cases h
 | dead=>cases j<;>cases h
 | one x=>cases j<;>cases h
 | hole n f m=>cases j<;>cases h
 | fam n f=>
  have h':(if j<n/\j≠i then some (f j) else none)=some o:=by rw[←jI];exact h
  split at h'
  ·rename_i e
   exact⟨by rw[xK,if_pos e.1];exact h',λ_ _=>e.2⟩
  ·cases h'
theorem kill_out [Fz]{c:Hl}{i j:Nat}(h:(c.kill i).out j):c.out j:=by cases c<;>first | exact h | exact h.elim
theorem Hp.turn [Fz](H:Hp M F w0 own η w){k i k':Nat}{o o':OB}{h h':Value}(hk:(own k).get i=some o)(he:η k i=some h)(hk':own k'=.unborn)
  (hs:w.heap.size<=w'.heap.size)(hw:∀b,b<w.heap.size->hb h≠some b->w'.heap[b]?=w.heap[b]?)(hos:w'.os=w.os)(htp:w'.tape=w.tape)(hou:w'.output=w.output)
  (hn:∀b,hb h'=some b->hb h=some b∨w.heap.size<=b)
  (hok : Keep η (yO η k' λi => if i = 0 then some h' else none) (Av F own η) (Av F (zY (zY own k ((own k).kill i)) k' (.one o')) (yO η k' λi => if i = 0 then some h' else none)) w w' ->
   o'.ok (yO η k' λi=>if i=0 then some h' else none) (Av F (zY (zY own k ((own k).kill i)) k' (.one o')) (yO η k' λi=>if i=0 then some h' else none)) w' h'):
  Hp M F w0 (zY (zY own k ((own k).kill i)) k' (.one o')) (yO η k' λi=>if i=0 then some h' else none) w'/\Keep η (yO η k' λi=>if i=0 then some h' else none) (Av F own η) (Av F (zY (zY own k ((own k).kill i)) k' (.one o')) (yO η k' λi=>if i=0 then some h' else none)) w w':=by
 obtain⟨hh,e1,hok0⟩:=H.ob k i o hk
 rw[he] at e1
 obtain rfl:=Option.some.inj e1
 have hkk:k'≠k:=λe=>by rw[e] at hk';rw[hk'] at hk;cases i<;>cases hk
 have hle:∀j i v,η j i=some v->(yO η k' λi=>if i=0 then some h' else none) j i=some v:=λj i v hv=>by
  unfold yO
  split
  ·rename_i e;subst e;rw[H.born j i (by rw[hk'];trivial)] at hv;cases hv
  ·exact hv
 have hself:∀i o1,(zY (zY own k ((own k).kill i)) k' (.one o') k').get i=some o1->i=0/\o1=o':=λi o1 hh=>by
  unfold zY at hh
  rw[if_pos rfl] at hh
  cases i with
  | zero=>exact⟨rfl,(Option.some.inj hh).symm⟩
  | succ i=>cases hh
 have hself':∀j o1,(zY (zY own k ((own k).kill i)) k' (.one o') k').get j=some o1->j=0/\o1=o':=λj o1 hh=>by
  unfold zY at hh
  rw[if_pos rfl] at hh
  cases j with
  | zero=>exact⟨rfl,(Option.some.inj hh).symm⟩
  | succ i=>cases hh
 have hne:∀j i' o1,j≠k'->(zY (zY own k ((own k).kill i)) k' (.one o') j).get i'=some o1->(own j).get i'=some o1/\¬(j=k/\i'=i):=λj i' o1 hj hh=>by
  rw[at_up_ne hj] at hh
  by_cases e:j=k
  ·subst e
   unfold zY at hh
   rw[if_pos rfl] at hh
   obtain⟨a1,a2⟩:=kill_get hh
   exact⟨a1,λe=>a2 o hk e.2⟩
  ·rw[at_up_ne e] at hh
   exact⟨hh,λe'=>e e'.1⟩
 have heta:∀j i v,j≠k'->(yO η k' λi=>if i=0 then some h' else none) j i=some v->η j i=some v:=λj i v hj hv=>by
  unfold yO at hv
  rwa [if_neg hj] at hv
 have hek:∀v,(yO η k' λi=>if i=0 then some h' else none) k' 0=some v->v=h':=λv hv=>by
  unfold yO at hv
  rw[if_pos rfl] at hv
  exact(Option.some.inj hv).symm
 have hav:∀b,b<w.heap.size->¬Av F own η b->¬Av F (zY (zY own k ((own k).kill i)) k' (.one o')) (yO η k' λi=>if i=0 then some h' else none) b:=λb hb0 ha hx=>by
  rcases hx with hx | ⟨j,i',o1,hd,h1,h2,h3⟩
  ·exact ha (.inl hx)
  ·by_cases e:j=k'
   ·subst e
    obtain⟨rfl,rfl⟩:=hself' i' o1 h1
    obtain rfl:=hek hd h2
    rcases hn b h3 with e | e
    ·exact ha (.inr ⟨k,i,o,h,hk,he,e⟩)
    ·omega
   ·exact ha (.inr ⟨j,i',o1,hd,(hne j i' o1 e h1).1,heta j i' hd e h2,h3⟩)
 have hnu:∀b,hb h=some b->¬U6 w b:=λb hb0=>(OB.blk_lt hok0 hb0).2
 have K:Keep η (yO η k' λi=>if i=0 then some h' else none) (Av F own η) (Av F (zY (zY own k ((own k).kill i)) k' (.one o')) (yO η k' λi=>if i=0 then some h' else none)) w w':=
  ⟨hle,hs,λj hj=>hw j hj.lt λe=>hnu j e hj,λj hj ha=>hw j hj λe=>ha (.inr ⟨k,i,o,h,hk,he,e⟩),hav⟩
 have hltw:∀j i o' hd b,(own j).get i=some o'->η j i=some hd->hb hd=some b->b<w.heap.size:=λj i o' hd b h1 h2 h3=>by
  obtain⟨hd',e,hk'⟩:=H.ob j i o' h1
  rw[h2] at e
  obtain rfl:=Option.some.inj e
  exact(OB.blk_lt hk' h3).1
 have hapn:∀j i2 o2 h2 b,(own j).get i2=some o2->¬(j=k/\i2=i)->η j i2=some h2->hb h2=some b->hb h'≠some b:=λj i2 o2 h2 b a1 a2 a3 a4 a5=>by
  rcases hn b a5 with e | e
  ·exact a2 (H.apart j i2 o2 k i o h2 h b a1 hk a3 he a4 e)
  ·have:=hltw j i2 o2 h2 b a1 a3 a4;omega
 refine⟨⟨⟨hos.trans H.mod.os,htp.trans H.mod.tape,hou.trans H.mod.output,Nat.le_trans H.mod.size hs,λb hb0 hM=>(hw b (Nat.lt_of_lt_of_le hb0 H.mod.size) λe=>?_).trans (H.mod.low b hb0 hM),λb hb0=>?_⟩,λj i' o1 hj=>?_,λj i' o1 hd b hj he' hb'=>?_,λj i1 o1 j' i2 o2 h1 h2 b a1 a2 e1 e2 b1 b2=>?_,λj i' hj=>?_,H.fl,H.gl⟩,K⟩
 ·rcases(H.low k i o h b hk he e).1 with e | e
  ·omega
  ·exact hM e
 ·have hu:U6 w b:=by obtain⟨on,cs,m,e⟩:=hb0;exact⟨on,cs,m,(H.mod.u64 b ⟨on,cs,m,e⟩).trans e⟩
  exact(hw b hu.lt λe=>hnu b e hu).trans (H.mod.u64 b hb0)
 ·by_cases e:j=k'
  ·subst e
   obtain⟨rfl,rfl⟩:=hself' i' o1 hj
   exact⟨h',by unfold yO;rw[if_pos rfl];rfl,hok K⟩
  ·obtain⟨a1,a2⟩:=hne j i' o1 e hj
   obtain⟨hd,e1,hk1⟩:=H.ob j i' o1 a1
   exact⟨hd,hle _ _ _ e1,OB.keep hk1 K λb hb0=>hw b (OB.blk_lt hk1 hb0).1 λe'=>a2 (H.apart j i' o1 k i o hd h b a1 hk e1 he hb0 e')⟩
 ·by_cases e:j=k'
  ·subst e
   obtain⟨rfl,rfl⟩:=hself' i' o1 hj
   obtain rfl:=hek hd he'
   rcases hn b hb' with e | e
   ·exact H.low k i o h b hk he e
   ·exact⟨.inl (Nat.le_trans H.mod.size e),λhF=>by have:=H.fl b hF;have:=H.mod.size;omega⟩
  ·exact H.low j i' o1 hd b (hne j i' o1 e hj).1 (heta j i' hd e he') hb'
 ·by_cases e:j=k'
  ·by_cases e':j'=k'
   ·subst e;subst e'
    exact⟨rfl,(hself' i1 o1 a1).1.trans (hself' i2 o2 a2).1.symm⟩
   ·subst e
    obtain⟨rfl,rfl⟩:=hself' i1 o1 a1
    obtain rfl:=hek h1 e1
    obtain⟨c1,c2⟩:=hne j' i2 o2 e' a2
    exact absurd b1 (hapn j' i2 o2 h2 b c1 c2 (heta j' i2 h2 e' e2) b2)
  ·by_cases e':j'=k'
   ·subst e'
    obtain⟨rfl,rfl⟩:=hself' i2 o2 a2
    obtain rfl:=hek h2 e2
    obtain⟨c1,c2⟩:=hne j i1 o1 e a1
    exact absurd b2 (hapn j i1 o1 h1 b c1 c2 (heta j i1 h1 e e1) b1)
   ·exact H.apart j i1 o1 j' i2 o2 h1 h2 b (hne j i1 o1 e a1).1 (hne j' i2 o2 e' a2).1 (heta j i1 h1 e e1) (heta j' i2 h2 e' e2) b1 b2
 ·unfold zY at hj
  unfold yO
  split at hj
  ·rename_i e
   rw[if_pos e]
   exact if_neg hj
  ·rename_i e
   rw[if_neg e]
   split at hj
   ·rename_i e2
    subst e2
    exact H.born j i' (kill_out hj)
   ·exact H.born j i' hj
end
open Go.RowKit
structure SSt where
 fr:Tmp->SV
 own:Nat->Hl
structure Sat [Fz] (M F:Nat->Prop) (w0:World) (N:Nat) (ψ:SSt) (η:Eta) (a:Act) (w:World):Prop where
 hp:Hp M F w0 ψ.own η w
 sl:∀t,(ψ.fr t).R η (Av F ψ.own η) w (a.tmps.getD t undef)
 size:a.tmps.size=N
 dfr:a.defers=[]
def clash (ops:Array Oper) (wr rd:Nat->List Nat) (i j:Nat):Bool:=
 (match yH ops i,ops[j]? with | some t,some o=>(o.looksAt ops).contains t||yH ops j==some t | _,_=>false)||
 (match yH ops j,ops[i]? with | some t,some o=>(o.looksAt ops).contains t | _,_=>false)||
 (wr i).any (λk=>(rd j).contains k||(wr j).contains k)||(rd i).any (λk=>(wr j).contains k)
def regOK (md:Region.Mode) (ops:Array Oper) (N:Nat) (wr rd:Nat->List Nat):Bool:=
 (List.range ops.size).all λj => (match ops[j]? with | none => false | some o => o.after.all (λe => !Region.binds md e || decide (e.on < j)) && (match o.dst with | some d => decide (d < N) | none => true)) &&
  (let S:=reachL md ops j;(List.range j).all λi=>!clash ops wr rd i j||S.contains i)
section
variable {P:Program} {ops:Array Oper} {Q:Exit->Act->World->Prop} {md:Region.Mode} {σ:Nat->SSt} {wr rd:Nat->List Nat} {M F:Nat->Prop} {w0:World} {N:Nat}
def SSt.step (ψ:SSt) (ops:Array Oper) (σ:Nat->SSt) (wr:Nat->List Nat) (i:Nat):SSt:=
 {fr:=λt=>if yH ops i=some t then(σ (i+1)).fr t else ψ.fr t,own:=λk=>if k∈wr i then(σ (i+1)).own k else ψ.own k}
def OpOK [Fz] (P:Program) (ops:Array Oper) (σ:Nat->SSt) (wr rd:Nat->List Nat) (M F:Nat->Prop) (w0:World) (N i:Nat):Prop:=
  ∀ (o : Oper) (ψ : SSt) (η : Eta) (a : Act) (w : World), ops[i]? = some o -> (∀ t ∈ o.looksAt ops, ψ.fr t = (σ i).fr t) -> (∀ k, k ∈ rd i ∨ k ∈ wr i -> ψ.own k = (σ i).own k) -> Sat M F w0 N ψ η a w ->
    if Region.wanted o (yielded ops a.tmps)=true then Yld P o a.eval w (λv w'=>∃η',Sat M F w0 N (ψ.step ops σ wr i) η' (a.put o.dst v) w')
    else∃η',Sat M F w0 N (ψ.step ops σ wr i) η' (a.put o.dst undef) w
structure Chain (ops:Array Oper) (σ:Nat->SSt) (wr:Nat->List Nat):Prop where
 fr:∀i,i<ops.size->∀t,yH ops i≠some t->(σ (i+1)).fr t=(σ i).fr t
 own:∀i,i<ops.size->∀k,k∉wr i->(σ (i+1)).own k=(σ i).own k
theorem between{α:Type}{f:Nat->α}{W:Nat->Prop}{n:Nat}(hf:∀i,i<n->¬W i->f (i+1)=f i){a:Nat}:∀d,a+d<=n->(∀i,a<=i->i<a+d->¬W i)->f (a+d)=f a
 | 0,_,_=>rfl
 | d+1,h,hw=>by
  rw[show a+(d+1)=(a+d)+1 by omega,hf (a+d) zo (hw (a+d) zo zo)]
  exact between hf d zo λi h1 h2=>hw i h1 zo
def CutAt (n:Nat) (listed:Array Bool) (W:Nat->Prop) (k:Nat):Prop:=k<=n/\(∀i,i<k->W i->listed.getD i false=true)/\∀i,k<=i->W i->listed.getD i false=false
theorem cut_read{α:Type}{f:Nat->α}{W:Nat->Prop}{n i k:Nat}{listed:Array Bool}(hf:∀i,i<n->¬W i->f (i+1)=f i)(hc:CutAt n listed W k)(hi:i<n)(hun:listed.getD i false=false)
  (h1:∀j,j<i->W j->listed.getD j false=true)(h2:∀j,i<j->W j->listed.getD j false=false):f k=f i:=by
 obtain⟨hk,c1,c2⟩:=hc
 rcases Nat.le_total k i with h | h
 ·have:=between hf (a:=k) (i-k) zo λj a b hw=>by
   have e1:=c2 j a hw
   rw[h1 j zo hw] at e1
   cases e1
  rw[show k+(i-k)=i by omega] at this
  exact this.symm
 ·have:=between hf (a:=i) (k-i) zo λj a b hw=>by
   have e1:=c1 j zo hw
   rcases Nat.lt_or_eq_of_le a with h | h
   ·rw[h2 j h hw] at e1;cases e1
   ·subst h;rw[hun] at e1;cases e1
  rw[show i+(k-i)=k by omega] at this
  exact this
structure View (ops:Array Oper) (σ:Nat->SSt) (wr:Nat->List Nat) (listed:Array Bool) (ψ:SSt):Prop where
 fr:∀t,∃k,CutAt ops.size listed (λi=>yH ops i=some t) k/\ψ.fr t=(σ k).fr t
 own:∀b,∃k,CutAt ops.size listed (λi=>b∈wr i) k/\ψ.own b=(σ k).own b
theorem reg_spec [Fz](h:regOK md ops N wr rd=true):(∀j o,ops[j]?=some o->(∀e∈o.after,Region.binds md e=true->e.on<j)/\∀d,o.dst=some d->d<N)/\∀i j,i<j->j<ops.size->clash ops wr rd i j=true->Dep md ops j i:=by
 have h':=λj hj=>List.all_eq_true.1 h j (by simpa using hj)
 refine⟨λj o ho=>?_,λi j hij hj hc=>?_⟩
 ·have hj:=(Array.getElem?_eq_some_iff.1 ho).1
  have h1:=(Bool.and_eq_true _ _▸h' j hj).1
  rw[ho] at h1
  simp only[Bool.and_eq_true] at h1
  refine⟨λe he hb=>?_,λd hd=>?_⟩
  ·have:=Array.all_eq_true_iff_forall_mem.1 h1.1 e he
   simp only[hb,Bool.not_true,Bool.false_or,decide_eq_true_eq] at this
   exact this
  ·have:=h1.2
   rw[hd] at this
   simpa using this
 ·have h1:=(Bool.and_eq_true _ _▸h' j hj).2
  have:=List.all_eq_true.1 h1 i (by simpa using hij)
  rw[hc] at this
  simp only[Bool.not_true,Bool.false_or] at this
  exact reach_dep j _ [j] (λx hx=>by rw[List.mem_singleton.1 hx];exact .refl j) i (by rw[List.contains_iff_mem] at this;exact this)
theorem dep_closed [Fz]{listed:Array Bool}(hcl:∀i k,listed.getD i false=true->xB md ops i k=true->listed.getD k false=true){j:Nat}(hj:listed.getD j false=true):∀{i:Nat},Dep md ops j i->listed.getD i false=true:=by
 intro i h
 induction h with
 | refl=>exact hj
 | step h b ih=>exact hcl _ _ ih b
theorem clash_slot{i j:Nat}{t:Tmp}{o:Oper}(ho:ops[j]?=some o)(h:yH ops i=some t)(h2:t∈o.looksAt ops∨yH ops j=some t):clash ops wr rd i j=true:=by
 unfold clash
 rw[h,ho]
 simp only[Bool.or_eq_true,List.contains_iff_mem,beq_iff_eq]
 exact .inl (.inl (.inl h2))
theorem clash_slot2{i j:Nat}{t:Tmp}{o:Oper}(ho:ops[i]?=some o)(h:yH ops j=some t)(h2:t∈o.looksAt ops):clash ops wr rd i j=true:=by
 unfold clash
 rw[h,ho]
 simp only[Bool.or_eq_true,List.contains_iff_mem]
 exact .inl (.inl (.inr h2))
theorem clash_own{i j k:Nat}(h:k∈wr i)(h2:k∈rd j∨k∈wr j):clash ops wr rd i j=true:=by
 unfold clash
 simp only[Bool.or_eq_true,List.any_eq_true,List.contains_iff_mem]
 exact .inl (.inr ⟨k,h,h2⟩)
theorem clash_own2{i j k:Nat}(h:k∈rd i)(h2:k∈wr j):clash ops wr rd i j=true:=by
 unfold clash
 simp only[Bool.or_eq_true,List.any_eq_true,List.contains_iff_mem]
 exact .inr ⟨k,h,h2⟩
theorem region_any [Fz](hc:regOK md ops N wr rd=true)(hch:Chain ops σ wr)(hop:∀i,i<ops.size->OpOK P ops σ wr rd M F w0 N i)
  (hfin:∀η a w,Sat M F w0 N (σ ops.size) η a w->Q .normal a w):
  ∀(fuel:Nat) (listed:Array Bool) (ψ:SSt) (η:Eta) (a:Act) (w:World),listed.size=ops.size->left ops listed=fuel->View ops σ wr listed ψ->(∀i j,listed.getD i false=true->xB md ops i j=true->listed.getD j false=true)->Sat M F w0 N ψ η a w->wpAny P md ops Q fuel listed a w:=by
 obtain⟨hlt,hdep⟩:=reg_spec hc
 have fin:∀(listed:Array Bool) (ψ:SSt) (η:Eta) (a:Act) (w:World),View ops σ wr listed ψ->(∀i,i<ops.size->listed.getD i false=true)->Sat M F w0 N ψ η a w->Q .normal a w:=by
  intro listed ψ η a w hv hall hs
  have e:ψ=σ ops.size:=by
   cases ψ with
   | mk fr own=>
    have e1:fr=(σ ops.size).fr:=funext λt=>by
     obtain⟨k,⟨hk,_,c2⟩,e⟩:=hv.fr t
     have:=between (W:=λi=>yH ops i=some t) (f:=λi=>(σ i).fr t) (λi hi hw=>hch.fr i hi t hw) (a:=k) (ops.size-k) zo λi h1 h2 hw=>by
      have:=c2 i h1 hw
      rw[hall i zo] at this
      cases this
     rw[show k+(ops.size-k)=ops.size by omega] at this
     exact e.trans this.symm
    have e2:own=(σ ops.size).own:=funext λb=>by
     obtain⟨k,⟨hk,_,c2⟩,e⟩:=hv.own b
     have:=between (W:=λi=>b∈wr i) (f:=λi=>(σ i).own b) (λi hi hw=>hch.own i hi b hw) (a:=k) (ops.size-k) zo λi h1 h2 hw=>by
      have:=c2 i h1 hw
      rw[hall i zo] at this
      cases this
     rw[show k+(ops.size-k)=ops.size by omega] at this
     exact e.trans this.symm
    subst e1;subst e2;rfl
  subst e
  exact hfin η a w hs
 intro fuel
 induction fuel with
 | zero=>
  intro listed ψ η a w hsz hl hv hcl hs
  have hall:∀i,i<ops.size->listed.getD i false=true:=λi hi=>by
   cases hb:listed.getD i true with
   | true=>rw[←xO zo];exact hb
   | false=>exact absurd hl (left_pos hi hb)
  refine⟨?_,fin listed ψ η a w hv hall hs⟩
  refine List.eq_nil_iff_forall_not_mem.2 λi hi=>?_
  obtain⟨h1,o,ho,_⟩:=mem_ready.1 hi
  have:=hall i (Array.getElem?_eq_some_iff.1 ho).1
  rw[←xO (by have:=(Array.getElem?_eq_some_iff.1 ho).1;omega),h1] at this
  cases this
 | succ fuel ih=>
  intro listed ψ η a w hsz hl hv hcl hs
  refine⟨λh0=>?_,λi hi=>?_⟩
  ·obtain⟨i,his,hun,hbef⟩:=first_left (ops:=ops) (listed:=listed) zo
   have ho:ops[i]?=some ops[i]:=Array.getElem?_eq_getElem his
   have:=ready_of (md:=md) ho hun λe he hb=>by
    have:=(hlt i _ ho).1 e he hb
    rw[←xO zo]
    exact hbef _ this
   rw[h0] at this
   cases this
  ·obtain⟨hun,o,ho,hpre⟩:=mem_ready.1 hi
   have his:=(Array.getElem?_eq_some_iff.1 ho).1
   have hunf:listed.getD i false=false:=by rw[←xO zo];exact hun
   have before:∀j,j<i->clash ops wr rd j i=true->listed.getD j false=true:=λj hj hcl2=>by
    rcases dep_listed ho hpre hcl (hdep j i hj his hcl2) with e | e
    ·omega
    ·exact e
   have behind:∀j,i<j->j<ops.size->clash ops wr rd i j=true->listed.getD j false=false:=λj hj hjs hcl2=>by
    cases hb:listed.getD j false with
    | false=>rfl
    | true=>
     have:=dep_closed hcl hb (hdep i j hj hjs hcl2)
     rw[hunf] at this
     cases this
   have hsome:∀j t,yH ops j=some t->j<ops.size:=λj t h=>by
    unfold yH at h
    cases hj:ops[j]? with
    | none=>rw[hj] at h;cases h
    | some _=>exact(Array.getElem?_eq_some_iff.1 hj).1
   have hslot:∀t∈o.looksAt ops,ψ.fr t=(σ i).fr t:=λt ht=>by
    obtain⟨k,hk,e⟩:=hv.fr t
    rw[e]
    exact cut_read (f:=λi=>(σ i).fr t) (λi hi hw=>hch.fr i hi t hw) hk his hunf (λj hj hw=>before j hj (clash_slot ho hw (.inl ht))) λj hj hw=>behind j hj (hsome j t hw) (clash_slot2 ho hw ht)
   have hown:∀b,b∈rd i∨b∈wr i->ψ.own b=(σ i).own b:=λb hbm=>by
    obtain⟨k,hk,e⟩:=hv.own b
    rw[e]
    refine cut_read (f:=λi=>(σ i).own b) (λi hi hw=>hch.own i hi b hw) hk his hunf (λj hj hw=>before j hj (clash_own hw hbm)) λj hj hw=>?_
    rcases Nat.lt_or_ge j ops.size with hjs | hjs
    ·exact behind j hj hjs (by rcases hbm with h | h;exact clash_own2 h hw;exact clash_own h (.inr hw))
    ·simp[Array.getElem?_eq_none (show listed.size<=j by omega)]
   have hop':=hop i his o ψ η a w ho hslot hown hs
   have hnext:∀v w' η',Sat M F w0 N (ψ.step ops σ wr i) η' (a.put o.dst v) w'->wpAny P md ops Q fuel (listed.setIfInBounds i true) (a.put o.dst v) w':=λv w' η' hs'=>by
    refine ih _ _ η' _ _ (by simpa using hsz) (by have:=left_put (ops:=ops) hsz his hun;omega) ⟨λt=>?_,λb=>?_⟩ (λj m hj hb=>?_) hs'
    ·by_cases e:yH ops i=some t
     ·refine⟨i+1,⟨by omega,λj hj hw=>?_,λj hj hw=>?_⟩,if_pos e⟩
      ·by_cases e2:j=i
       ·subst e2;simp[show j<listed.size by omega]
       ·rw[getD_set_ne false (Ne.symm e2)];exact before j zo (clash_slot ho hw (.inr e))
      ·rw[getD_set_ne false zo]
       exact behind j zo (hsome j t hw) (clash_slot (Array.getElem?_eq_getElem (hsome j t hw)) e (.inr hw))
     ·obtain⟨k,⟨hk,c1,c2⟩,e1⟩:=hv.fr t
      have hne:∀j,yH ops j=some t->j≠i:=λj hw e2=>e (e2▸hw)
      exact⟨k,⟨hk,λj hj hw=>by rw[getD_set_ne false (Ne.symm (hne j hw))];exact c1 j hj hw,λj hj hw=>by rw[getD_set_ne false (Ne.symm (hne j hw))];exact c2 j hj hw⟩,(if_neg e).trans e1⟩
    ·by_cases e:b∈wr i
     ·refine⟨i+1,⟨by omega,λj hj hw=>?_,λj hj hw=>?_⟩,if_pos e⟩
      ·by_cases e2:j=i
       ·subst e2;simp[show j<listed.size by omega]
       ·rw[getD_set_ne false (Ne.symm e2)];exact before j zo (clash_own hw (.inr e))
      ·rw[getD_set_ne false zo]
       rcases Nat.lt_or_ge j ops.size with hjs | hjs
       ·exact behind j zo hjs (clash_own e (.inr hw))
       ·simp[Array.getElem?_eq_none (show listed.size<=j by omega)]
     ·obtain⟨k,⟨hk,c1,c2⟩,e1⟩:=hv.own b
      have hne:∀j,b∈wr j->j≠i:=λj hw e2=>e (e2▸hw)
      exact⟨k,⟨hk,λj hj hw=>by rw[getD_set_ne false (Ne.symm (hne j hw))];exact c1 j hj hw,λj hj hw=>by rw[getD_set_ne false (Ne.symm (hne j hw))];exact c2 j hj hw⟩,(if_neg e).trans e1⟩
    ·by_cases e:j=i
     ·subst e
      unfold xB at hb
      rw[ho] at hb
      obtain⟨e,he,hb⟩:=Array.any_eq_true'.1 hb
      simp only[Bool.and_eq_true,beq_iff_eq] at hb
      rw[←hb.2]
      exact getD_set_true (hpre e he hb.1)
     ·exact getD_set_true (hcl j m (by rw[←getD_set_ne false (Ne.symm e)];exact hj) hb)
   unfold wpOp
   rw[ho]
   by_cases hw:Region.wanted o (yielded ops a.tmps)=true
   ·rw[if_pos hw] at hop'
    simp only[hw,if_true]
    exact .inl (Yld.wp hop' λv w' ⟨η',hs'⟩=>hnext v w' η' hs')
   ·rw[if_neg hw] at hop'
    simp only[hw]
    obtain⟨η',hs'⟩:=hop'
    exact hnext undef w η' hs'
theorem region_list [Fz](hch:Chain ops σ wr)(hop:∀i,i<ops.size->OpOK P ops σ wr rd M F w0 N i)(hfin:∀η a w,Sat M F w0 N (σ ops.size) η a w->Q .normal a w):
  ∀(d k:Nat) (η:Eta) (a:Act) (w:World),k+d=ops.size->Sat M F w0 N (σ k) η a w->wpList P ops Q (ops.toList.drop k) a w:=by
 intro d
 induction d with
 | zero=>
  intro k η a w hk hs
  obtain rfl:k=ops.size:=by omega
  rw[List.drop_eq_nil_of_le (by simp)]
  exact hfin η a w hs
 | succ d ih=>
  intro k η a w hk hs
  have hks:k<ops.size:=by omega
  have ho:ops[k]?=some ops[k]:=Array.getElem?_eq_getElem hks
  have hdrop:ops.toList.drop k=ops[k]::ops.toList.drop (k+1):=by
   rw[List.drop_eq_getElem_cons (by simpa using hks)]
   congr 1
  have hop':=hop k hks _ (σ k) η a w ho (λ_ _=>rfl) (λ_ _=>rfl) hs
  have e:(σ k).step ops σ wr k=σ (k+1):=by
   have e1:((σ k).step ops σ wr k).fr=(σ (k+1)).fr:=funext λt=>by
    show(if yH ops k=some t then _ else _)=_
    split
    ·rfl
    ·rename_i h;exact(hch.fr k hks t h).symm
   have e2:((σ k).step ops σ wr k).own=(σ (k+1)).own:=funext λb=>by
    show(if b∈wr k then _ else _)=_
    split
    ·rfl
    ·rename_i h;exact(hch.own k hks b h).symm
   generalize (σ k).step ops σ wr k=x at e1 e2
   generalize σ (k+1)=y at e1 e2
   cases x;cases y
   simp only at e1 e2
   subst e1;subst e2;rfl
  rw[e] at hop'
  rw[hdrop]
  unfold wpList
  by_cases hw:Region.wanted ops[k] (yielded ops a.tmps)=true
  ·rw[if_pos hw] at hop'⊢
   exact .inl (Yld.wp hop' λv w' ⟨η',hs'⟩=>ih (k+1) η' _ w' zo hs')
  ·rw[if_neg hw] at hop'⊢
   obtain⟨η',hs'⟩:=hop'
   exact ih (k+1) η' _ w zo hs'
theorem Sat.drew [Fz]{ψ:SSt}{η:Eta}{a:Act}{w:World}(h:Sat M F w0 N ψ η a w):Sat M F w0 N ψ η a w.drew:=by
 obtain⟨h1,K⟩:=h.hp.grow ((Grow.refl w).drew)
 exact⟨h1,λt=>SV.keep K _ _ (h.sl t),h.size,h.dfr⟩
theorem region_go [Fz]{id:Nat}{draw:Bool}{η:Eta}{a:Act}{w:World}(hm:P.follows .mixedOrders=true)(hc:draw=true->regOK .any ops N wr rd=true)(hch:Chain ops σ wr)(hop:∀i,i<ops.size->OpOK P ops σ wr rd M F w0 N i)
  (hs:Sat M F w0 N (σ 0) η a w)(hfin:∀η a w,Sat M F w0 N (σ ops.size) η a w->Q .normal a w):(Code.region id ops draw).wp P Q a w:=by
 cases draw with
 | true=>
  refine wp_region_any hm (region_any (hc rfl) hch hop hfin ops.size _ (σ 0) η a _ (by simp) ?_ ⟨λt=>⟨0,⟨Nat.zero_le _,λi hi=>by omega,λi _ _=>?_⟩,rfl⟩,λb=>⟨0,⟨Nat.zero_le _,λi hi=>by omega,λi _ _=>?_⟩,rfl⟩⟩ (λi j h=>?_) hs.drew)
  ·have:=left_tail (ops:=ops) (n:=0) (listed:=Array.replicate ops.size false) (by simp) (λi hi=>by omega) (λi _=>by simp[Array.getElem?_replicate];split<;>rfl)
   simpa using this
  ·simp[Array.getElem?_replicate];split<;>rfl
  ·simp[Array.getElem?_replicate];split<;>rfl
  ·simp[Array.getElem?_replicate] at h;split at h<;>cases h
 | false=>
  refine wp_region_list ?_
  have:=region_list (wr:=wr) (rd:=rd) hch hop hfin ops.size 0 η a w zo hs
  simpa using this
end
open Go.RowKit
theorem xC{v:Value}(h:v.oneCell'=true):v.cells=#[v]:=by cases v<;>first | rfl | cases h
def SV.sz:SV->Nat
 | .ex v=>v.cells.size
 | .int _=>2
 | .rat _=>3
 | .nl=>0
 | .cn a b=>a.sz+b.sz
 | .agg l=>l.sz
 | _=>1
def SV.kind:SV->Option Bool
 | .ex (.agg _)=>some true
 | .ex (.tuple _)=>none
 | .ex _=>some false
 | .nat _ | .int _ | .rat _ | .agg _=>some true
 | .sl .. | .ep _ | .own .. | .ref .. | .ifc ..=>some false
 | _=>none
def SV.isL:SV->Bool
 | .cn .. | .nl=>true
 | _=>false
def SV.solid:SV->Bool
 | .any | .opt .. | .alt ..=>false
 | .ex v=>v.cells.all (·.oneCell')
 | .cn a b=>a.solid&&a.kind.isSome&&b.solid&&b.isL
 | .agg l=>l.solid&&l.isL
 | _=>true
section
variable {η:Eta} {A:Nat->Prop} {w:World} {v:Value} {a l s:SV}
theorem yV(x:Value)(xs:List Value):flat (x::xs)=x.cells.toList++flat xs:=rfl
theorem agg_cells(cs:List Value):(Value.agg cs.toArray).cells.toList=cs:=by simp[Value.cells]
def Shp (k:Bool) (n:Nat) (v:Value):Prop:=v.cells.size=n/\(∀u∈v.cells.toList,u.oneCell'=true)/\(k=true->∃cs,v=.agg cs)/\(k=false->v.oneCell'=true)
theorem SV.shape [Fz]:∀(a:SV) (v:Value),a.solid=true->a.R η A w v->(∀k,a.kind=some k->Shp k a.sz v)/\
  (a.isL=true->∃vs:List Value,v=.tuple vs.toArray/\(flat vs).length=a.sz/\∀u∈flat vs,u.oneCell'=true):=by
 intro a
 induction a with
 | any=>intro v h;cases h
 | ex u=>
  intro v hs hv
  obtain rfl:v=u:=hv
  refine⟨λk hk=>?_,(λh=>by cases h)⟩
  have h1:∀x∈v.cells.toList,x.oneCell'=true:=λx hx=>Array.all_eq_true_iff_forall_mem.1 hs x (by simpa using hx)
  refine⟨rfl,h1,λe=>?_,λe=>?_⟩
  ·subst e
   cases v<;>first | exact⟨_,rfl⟩ | (simp[SV.kind] at hk)
  ·subst e
   cases v<;>first | rfl | (simp[SV.kind] at hk)
 | nat x=>
  intro v _ hv
  refine⟨λk hk=>?_,(λh=>by cases h)⟩
  obtain⟨A,c,rfl,_⟩:NatAt _ w v x:=hv.1
  cases hk
  exact⟨rfl,by simp[Value.cells,Value.oneCell'],λ_=>⟨_,rfl⟩,λe=>by cases e⟩
 | int z=>
  intro v _ hv
  refine⟨λk hk=>?_,(λh=>by cases h)⟩
  obtain⟨b,A,n,c,rfl⟩:=IntAt.form (show IntAt _ w v z from hv.1)
  cases hk
  exact⟨rfl,by simp[Value.cells,Value.oneCell'],λ_=>⟨_,rfl⟩,λe=>by cases e⟩
 | rat q=>
  intro v _ hv
  refine⟨λk hk=>?_,(λh=>by cases h)⟩
  obtain⟨b,A,n,c,A',n',c',rfl⟩:=RatAt.form (show RatAt _ w v q from hv.1)
  cases hk
  exact⟨rfl,by simp[Value.cells,Value.oneCell'],λ_=>⟨_,rfl⟩,λe=>by cases e⟩
 | sl s E n=>
  rintro v _ ⟨A0,c,rfl,_⟩
  refine⟨λk hk=>?_,(λh=>by cases h)⟩
  cases hk
  exact⟨rfl,by simp[Value.cells,Value.oneCell'],(λe=>by cases e),λ_=>rfl⟩
 | ep a=>
  rintro v _ ⟨g,o,rfl,_⟩
  refine⟨λk hk=>?_,(λh=>by cases h)⟩
  cases hk
  exact⟨rfl,by simp[Value.cells,Value.oneCell'],(λe=>by cases e),λ_=>rfl⟩
 | own k i=>
  rintro v _ ⟨_,hv⟩
  refine⟨λk hk=>?_,(λh=>by cases h)⟩
  cases hk
  refine⟨by rw[xC hv];rfl,?_,(λe=>by cases e),λ_=>hv⟩
  rw[xC hv];simpa using hv
 | ref k i s j off=>
  rintro v _ ⟨h,b,_,_,rfl⟩
  refine⟨λk hk=>?_,(λh=>by cases h)⟩
  cases hk
  exact⟨rfl,by simp[Value.cells,Value.oneCell'],(λe=>by cases e),λ_=>rfl⟩
 | nl=>
  intro v _ hv
  obtain rfl:v=.tuple #[]:=hv
  exact⟨(λk hk=>by cases hk),λ_=>⟨[],rfl,rfl,λu hu=>by cases hu⟩⟩
 | cn a b iha ihb=>
  rintro v hs ⟨x,xs,rfl,h1,h2⟩
  refine⟨(λk hk=>by cases hk),λ_=>?_⟩
  simp only[SV.solid,Bool.and_eq_true] at hs
  obtain⟨⟨⟨s1,s2⟩,s3⟩,s4⟩:=hs
  obtain⟨k,hk⟩:=Option.isSome_iff_exists.1 s2
  obtain⟨p1,p2,p3,p4⟩:=(iha x s1 h1).1 k hk
  obtain⟨vs,e,q1,q2⟩:=(ihb _ s3 h2).2 s4
  simp only[Value.tuple.injEq] at e
  have e':xs=vs:=by simpa using congrArg Array.toList e
  subst e'
  refine⟨x::xs,rfl,?_,?_⟩
  ·rw[yV,List.length_append,q1,Array.length_toList,p1];rfl
  ·intro u hu
   rw[yV] at hu
   rcases List.mem_append.1 hu with h | h
   ·exact p2 u h
   ·exact q2 u h
 | agg l ih=>
  rintro v hs ⟨vs,rfl,h1⟩
  refine⟨λk hk=>?_,(λh=>by cases h)⟩
  cases hk
  simp only[SV.solid,Bool.and_eq_true] at hs
  obtain⟨vs',e,q1,q2⟩:=(ih _ hs.1 h1).2 hs.2
  simp only[Value.tuple.injEq] at e
  have e':vs=vs':=by simpa using congrArg Array.toList e
  subst e'
  refine⟨?_,?_,λ_=>⟨_,rfl⟩,λe=>by cases e⟩
  ·simp only[Value.cells,List.size_toArray];exact q1
  ·simp only[Value.cells];exact q2
 | opt c a=>intro v h;cases h
 | alt c a b=>intro v h;cases h
 | ifc T a=>
  rintro v _ ⟨u,rfl,_⟩
  refine⟨λk hk=>?_,(λh=>by cases h)⟩
  cases hk
  exact⟨rfl,by simp[Value.cells,Value.oneCell'],(λe=>by cases e),λ_=>rfl⟩
theorem Shp.cells{k:Bool}{n:Nat}(h:Shp k n v):v.cells.toList.length=n:=by rw[Array.length_toList];exact h.1
end
def exL:List Value->SV
 | []=>.nl
 | c::cs=>.cn (.ex c) (exL cs)
def SV.sub (n:Nat) (k:Bool):SV->Nat->Option SV
 | .cn a b,off=>if off=0/\a.sz=n/\a.kind=some k then some a else if a.sz<=off then SV.sub n k b (off-a.sz) else SV.sub n k a off
 | .agg l,off=>SV.sub n k l off
 | .ex (.agg cs),off=>if n=1/\k=false then cs.toList[off]?.map .ex else none
 | _,_=>none
def SV.dropN:SV->Nat->Option SV
 | l,0=>some l
 | .cn a b,n+1=>if 0<a.sz/\a.sz<=n+1 then SV.dropN b (n+1-a.sz) else none
 | _,_+1=>none
def SV.put (n:Nat) (k:Bool) (s:SV):SV->Nat->Option SV
  | .cn a b, 0 => match SV.dropN (.cn a b) n with
    | some b'=>some (.cn s b')
    | none=>(SV.put n k s a 0).map (.cn · b)
  | .cn a b,off+1=>if a.sz<=off+1 then(SV.put n k s b (off+1-a.sz)).map (.cn a ·) else(SV.put n k s a (off+1)).map (.cn · b)
  | .agg l,off=>(SV.put n k s l off).map .agg
  | _,_=>none
def SV.part (n:Nat) (k:Bool) (a:SV) (off:Nat):Option SV:=if off=0/\a.sz=n/\a.kind=some k then some a else SV.sub n k a off
def SV.upd (n:Nat) (k:Bool) (s a:SV) (off:Nat):Option SV:=if off=0/\a.sz=n/\a.kind=some k then some s else match a with
 | .ex (.agg cs)=>(SV.put n k s (exL cs.toList) off).map .agg
 | a=>SV.put n k s a off
def cellsOf:Value->List Value
 | .tuple vs=>flat vs.toList
 | v=>v.cells.toList
section
variable {η:Eta} {A:Nat->Prop} {w:World} {n:Nat} {k:Bool}
theorem tup_inj{xs ys:List Value}(h:Value.tuple xs.toArray=.tuple ys.toArray):xs=ys:=by
 simp only[Value.tuple.injEq] at h
 simpa using congrArg Array.toList h
theorem cn_solid{a b:SV}(h:(SV.cn a b).solid=true):a.solid=true/\(∃k,a.kind=some k)/\b.solid=true/\b.isL=true:=by
 simp only[SV.solid,Bool.and_eq_true] at h
 exact⟨h.1.1.1,Option.isSome_iff_exists.1 h.1.1.2,h.1.2,h.2⟩
theorem xX{v:Value}(h:Shp k n v):cellsOf v=v.cells.toList:=by
 cases v<;>first | rfl | skip
 rename_i vs
 cases k with
 | true=>obtain⟨cs,e⟩:=h.2.2.1 rfl;cases e
 | false=>cases h.2.2.2 rfl
theorem cellsOf_tup(vs:List Value):cellsOf (.tuple vs.toArray)=flat vs:=rfl
theorem cellsOf_cn(x:Value)(xs:List Value):cellsOf (.tuple (x::xs).toArray)=x.cells.toList++flat xs:=rfl
theorem sub_ok [Fz]:∀(l:SV) (off:Nat) (v:Value) (a:SV),l.solid=true->l.R η A w v->SV.sub n k l off=some a->
  ∃x,a.R η A w x/\a.solid=true/\Shp k n x/\∀j u,x.cells[j]?=some u->(cellsOf v)[off+j]?=some u:=by
 intro l
 induction l with
 | cn a0 b iha ihb=>
  rintro off v a hs ⟨x,xs,rfl,h1,h2⟩ h
  obtain⟨s1,⟨k0,hk0⟩,s3,s4⟩:=cn_solid hs
  have hsx:=(SV.shape a0 x s1 h1).1 k0 hk0
  rw[SV.sub] at h
  rw[cellsOf_cn]
  split at h
  ·rename_i hc
   obtain⟨rfl,hz,hk⟩:=hc
   obtain rfl:=Option.some.inj h
   refine⟨x,h1,s1,hz▸(SV.shape a0 x s1 h1).1 k hk,λj u hj=>?_⟩
   rw[Nat.zero_add,List.getElem?_append_left (by rw[Array.length_toList];exact(Array.getElem?_eq_some_iff.1 hj).1),Array.getElem?_toList]
   exact hj
  ·split at h
   ·rename_i hle
    obtain⟨v,p1,p2,p3,p4⟩:=ihb (off-a0.sz) _ a s3 h2 h
    refine⟨v,p1,p2,p3,λj u hj=>?_⟩
    have:=p4 j u hj
    rw[cellsOf_tup] at this
    rw[List.getElem?_append_right (by rw[hsx.cells];omega),hsx.cells,←this]
    congr 1
    omega
   ·obtain⟨v,p1,p2,p3,p4⟩:=iha off x a s1 h1 h
    refine⟨v,p1,p2,p3,λj u hj=>?_⟩
    have:=p4 j u hj
    rw[xX hsx] at this
    rw[List.getElem?_append_left (List.getElem?_eq_some_iff.1 this).1]
    exact this
 | agg l ih=>
  rintro off v a hs ⟨vs,rfl,h1⟩ h
  simp only[SV.solid,Bool.and_eq_true] at hs
  obtain⟨v,p1,p2,p3,p4⟩:=ih off _ a hs.1 h1 h
  exact⟨v,p1,p2,p3,p4⟩
 | ex u=>
  intro off v a hs hv h
  obtain rfl:v=u:=hv
  cases v<;>first | (cases h;done) | skip
  rename_i cs
  rw[SV.sub] at h
  split at h
  ·rename_i hc
   obtain⟨rfl,rfl⟩:=hc
   obtain⟨x,hx,rfl⟩:=Option.map_eq_some_iff.1 h
   have h1:x.oneCell'=true:=Array.all_eq_true_iff_forall_mem.1 (show cs.all (·.oneCell')=true from hs) x (by rw[←Array.mem_toList_iff];exact List.mem_of_getElem? hx)
   refine⟨x,rfl,?_,⟨by rw[xC h1];rfl,by rw[xC h1];simpa using h1,(λe=>by cases e),λ_=>h1⟩,λj u hj=>?_⟩
   ·show x.cells.all _=true
    rw[xC h1];simp[h1]
   ·rw[xC h1] at hj
    cases j with
    | zero=>simp at hj;subst hj;exact hx
    | succ j=>simp at hj
  ·cases h
 | _=>intro _ _ _ _ _ h;cases h
theorem kind_one{c:Value}(h:c.oneCell'=true):(SV.ex c).kind=some false:=by cases c<;>first | rfl | cases h
theorem exL_ok [Fz]:∀(cs:List Value),(∀c∈cs,c.oneCell'=true)->(exL cs).R η A w (.tuple cs.toArray)/\(exL cs).solid=true/\(exL cs).isL=true/\flat cs=cs/\(exL cs).sz=cs.length
 | [],_=>⟨rfl,rfl,rfl,rfl,rfl⟩
 | c::cs,h=>by
  obtain⟨h1,h2,h3,h4,h5⟩:=exL_ok cs λc hc=>h c (by simp[hc])
  have hc:=h c (by simp)
  refine⟨⟨c,cs,rfl,rfl,h1⟩,?_,rfl,by rw[yV,h4,xC hc];rfl,?_⟩
  ·show((c.cells.all (·.oneCell'))&&(SV.kind (.ex c)).isSome&&(exL cs).solid&&(exL cs).isL)=true
   rw[xC hc,h2,h3,kind_one hc]
   simp[hc]
  ·show c.cells.size+(exL cs).sz=_
   rw[xC hc,h5,List.length_cons];simp;omega
theorem dropN_ok [Fz]:∀(l:SV) (n:Nat) (vs:List Value) (l':SV),l.solid=true->l.isL=true->l.R η A w (.tuple vs.toArray)->SV.dropN l n=some l'->
  ∃vs':List Value,l'.R η A w (.tuple vs'.toArray)/\l'.solid=true/\l'.isL=true/\flat vs'=(flat vs).drop n/\n<=(flat vs).length/\l'.sz+n=l.sz:=by
 intro l
 induction l with
 | cn a b iha ihb=>
  intro n vs l' hs hl hR h
  cases n with
  | zero=>
   obtain rfl:=Option.some.inj h
   exact⟨vs,hR,hs,rfl,by simp,by omega,rfl⟩
  | succ n=>
   rw[SV.dropN] at h
   split at h
   ·rename_i hc
    obtain⟨x,xs,e,h1,h2⟩:=hR
    obtain rfl:=tup_inj e
    obtain⟨s1,⟨k0,hk0⟩,s3,s4⟩:=cn_solid hs
    have hx:=((SV.shape a x s1 h1).1 k0 hk0).cells
    obtain⟨vs',p1,p2,p3,p4,p5,p6⟩:=ihb _ xs l' s3 s4 h2 h
    refine⟨vs',p1,p2,p3,?_,?_,?_⟩
    ·have e2:x.cells.toList.drop (n+1)=[]:=List.drop_of_length_le zo
     rw[p4,yV,List.drop_append,e2,hx];rfl
    ·rw[yV,List.length_append];omega
    ·show _=a.sz+b.sz;omega
   ·cases h
 | nl=>
  intro n vs l' hs hl hR h
  cases n with
  | zero=>
   obtain rfl:=Option.some.inj h
   exact⟨vs,hR,hs,rfl,by simp,by omega,rfl⟩
  | succ n=>cases h
 | _=>intro _ _ _ _ hl;cases hl
theorem put_ok [Fz]{s:SV}{x:Value}(hs:s.solid=true)(hk:s.kind=some k)(hz:s.sz=n)(hR:s.R η A w x):∀(l:SV) (off:Nat) (v:Value) (l':SV),l.solid=true->l.R η A w v->SV.put n k s l off=some l'->
  ∃v',l'.R η A w v'/\l'.solid=true/\l'.isL=l.isL/\l'.kind=l.kind/\l'.sz=l.sz/\cellsOf v'=(cellsOf v).take off++x.cells.toList++(cellsOf v).drop (off+n)/\off+n<=(cellsOf v).length/\(∀vs:List Value,v=.tuple vs.toArray->∃vs':List Value,v'=.tuple vs'.toArray):=by
 have hsx:=hz▸(SV.shape s x hs hR).1 k hk
 have hxl:=hsx.cells
 intro l
 induction l with
 | cn a0 b iha ihb=>
  intro off v l' hs0 hR0 h
  have hR1:=hR0
  obtain⟨y,ys,rfl,h1,h2⟩:=hR0
  obtain⟨s1,⟨k0,hk0⟩,s3,s4⟩:=cn_solid hs0
  have hsy:=(SV.shape a0 y s1 h1).1 k0 hk0
  have hyl:=hsy.cells
  have nest:∀off,(SV.put n k s a0 off).map (.cn · b)=some l'->∃v',l'.R η A w v'/\l'.solid=true/\l'.isL=true/\l'.kind=none/\l'.sz=a0.sz+b.sz/\cellsOf v'=(y.cells.toList++flat ys).take off++x.cells.toList++(y.cells.toList++flat ys).drop (off+n)/\off+n<=(y.cells.toList++flat ys).length/\(∃vs':List Value,v'=.tuple vs'.toArray):=by
   intro off h
   obtain⟨a',h',rfl⟩:=Option.map_eq_some_iff.1 h
   obtain⟨y',p1,p2,p3,p4,p5,p6,p7,p8⟩:=iha off y a' s1 h1 h'
   have hsy':=(SV.shape a' y' p2 p1).1 k0 (p4.trans hk0)
   rw[xX hsy,xX hsy'] at p6
   rw[xX hsy] at p7
   refine⟨.tuple (y'::ys).toArray,⟨y',ys,rfl,p1,h2⟩,by simp[SV.solid,p2,p4,hk0,s3,s4],rfl,rfl,by show a'.sz+_=a0.sz+_;rw[p5],?_,?_,_,rfl⟩
   ·have e1:off-y.cells.toList.length=0:=by omega
    have e2:off+n-y.cells.toList.length=0:=by omega
    rw[cellsOf_cn,p6,List.take_append,List.drop_append,e1,e2]
    simp
   ·rw[List.length_append];omega
  rw[cellsOf_cn]
  cases off with
  | zero=>
   rw[SV.put] at h
   split at h
   ·rename_i b' hb'
    obtain rfl:=Option.some.inj h
    obtain⟨vs',p1,p2,p3,p4,p5,p6⟩:=dropN_ok _ n (y::ys) b' hs0 rfl hR1 hb'
    rw[yV] at p4 p5
    refine⟨.tuple (x::vs').toArray,⟨x,vs',rfl,hR,p1⟩,by simp[SV.solid,hs,hk,p2,p3],rfl,rfl,by show s.sz+b'.sz=_;omega,?_,by omega,λvs e=>⟨_,rfl⟩⟩
    rw[cellsOf_cn,p4,List.take_zero,List.nil_append,Nat.zero_add]
   ·obtain⟨v',q1,q2,q3,q4,q5,q6,q7,q8⟩:=nest 0 h
    exact⟨v',q1,q2,q3,q4,q5,q6,q7,λ_ _=>q8⟩
  | succ off=>
   rw[SV.put] at h
   split at h
   ·rename_i hle
    obtain⟨b',h',rfl⟩:=Option.map_eq_some_iff.1 h
    obtain⟨v',p1,p2,p3,p4,p5,p6,p7,p8⟩:=ihb (off+1-a0.sz) _ b' s3 h2 h'
    obtain⟨ys',rfl⟩:=p8 ys rfl
    rw[cellsOf_tup,cellsOf_tup] at p6
    rw[cellsOf_tup] at p7
    refine⟨.tuple (y::ys').toArray,⟨y,ys',rfl,h1,p1⟩,by simp[SV.solid,s1,hk0,p2,p3,s4],rfl,rfl,by show a0.sz+_=a0.sz+_;rw[p5],?_,?_,λvs e=>⟨_,rfl⟩⟩
    ·have e1:y.cells.toList.take (off+1)=y.cells.toList:=List.take_of_length_le zo
     have e2:y.cells.toList.drop (off+1+n)=[]:=List.drop_of_length_le zo
     rw[cellsOf_cn,p6,List.take_append,List.drop_append,e1,e2,hyl,show off+1+n-a0.sz=off+1-a0.sz+n by omega]
     simp
    ·rw[List.length_append];omega
   ·obtain⟨v',q1,q2,q3,q4,q5,q6,q7,q8⟩:=nest (off+1) h
    exact⟨v',q1,q2,q3,q4,q5,q6,q7,λ_ _=>q8⟩
 | agg l ih=>
  rintro off v l' hs0 ⟨vs,rfl,h1⟩ h
  simp only[SV.solid,Bool.and_eq_true] at hs0
  obtain⟨l2,h',rfl⟩:=Option.map_eq_some_iff.1 h
  obtain⟨v',p1,p2,p3,p4,p5,p6,p7,p8⟩:=ih off _ l2 hs0.1 h1 h'
  obtain⟨vs',rfl⟩:=p8 vs rfl
  exact⟨_,⟨vs',rfl,p1⟩,by simp[SV.solid,p2,p3,hs0.2],rfl,rfl,p5,p6,p7,λ_ e=>by cases e⟩
 | _=>intro _ _ _ _ _ h;cases h
theorem upd_ok [Fz]{s a a':SV}{x v:Value}{k0:Bool}{off:Nat}(hs:s.solid=true)(hk:s.kind=some k)(hz:s.sz=n)(hR:s.R η A w x)(ha:a.solid=true)(hka:a.kind=some k0)(hv:a.R η A w v)(h:SV.upd n k s a off=some a'):
  ∃v',a'.R η A w v'/\a'.solid=true/\a'.kind=some k0/\a'.sz=a.sz/\v'.cells.toList=v.cells.toList.take off++x.cells.toList++v.cells.toList.drop (off+n)/\off+n<=v.cells.toList.length:=by
 have hsv:=(SV.shape a v ha hv).1 k0 hka
 have hsx:=(SV.shape s x hs hR).1 k hk
 have hvl:=hsv.cells
 have gen:∀a:SV,a.solid=true->a.kind=some k0->a.R η A w v->SV.put n k s a off=some a'->∃v',a'.R η A w v'/\a'.solid=true/\a'.kind=some k0/\a'.sz=a.sz/\v'.cells.toList=v.cells.toList.take off++x.cells.toList++v.cells.toList.drop (off+n)/\off+n<=v.cells.toList.length:=by
  intro a ha hka hv h
  obtain⟨v',p1,p2,p3,p4,p5,p6,p7,p8⟩:=put_ok hs hk hz hR a off v a' ha hv h
  have hsv':=(SV.shape a' v' p2 p1).1 k0 (p4.trans hka)
  rw[xX hsv,xX hsv'] at p6
  rw[xX hsv] at p7
  exact⟨v',p1,p2,p4.trans hka,p5,p6,p7⟩
 unfold SV.upd at h
 split at h
 ·rename_i hc
  obtain⟨rfl,hz0,hk1⟩:=hc
  obtain rfl:=Option.some.inj h
  rw[hka] at hk1
  refine⟨x,hR,hs,hk.trans hk1.symm,by omega,?_,by omega⟩
  rw[List.take_zero,List.nil_append,Nat.zero_add,List.drop_of_length_le zo,List.append_nil]
 ·split at h
  ·rename_i cs _
   obtain⟨l',h',rfl⟩:=Option.map_eq_some_iff.1 h
   obtain rfl:v=.agg cs:=hv
   have hone:∀c∈cs.toList,c.oneCell'=true:=λc hc=>Array.all_eq_true_iff_forall_mem.1 (show cs.all (·.oneCell')=true from ha) c (by simpa using hc)
   obtain⟨h1,h2,h3,h4,h5⟩:=exL_ok (η:=η) (A:=A) (w:=w) cs.toList hone
   obtain rfl:true=k0:=by simpa [SV.kind] using hka
   obtain⟨v',p1,p2,p3,p4,p5,p6⟩:=gen (.agg (exL cs.toList)) (by simp[SV.solid,h2,h3]) rfl ⟨cs.toList,by rw[h4],h1⟩ (by rw[SV.put,h'];rfl)
   exact⟨v',p1,p2,p3,by rw[p4];show(exL cs.toList).sz=cs.size;rw[h5,Array.length_toList],p5,p6⟩
  ·exact gen a ha hka hv h
theorem part_ok [Fz]{a a':SV}{v:Value}{k0:Bool}{off:Nat}(ha:a.solid=true)(hka:a.kind=some k0)(hv:a.R η A w v)(h:SV.part n k a off=some a'):
  ∃x,a'.R η A w x/\a'.solid=true/\Shp k n x/\∀j u,x.cells[j]?=some u->v.cells[off+j]?=some u:=by
 have hsv:=(SV.shape a v ha hv).1 k0 hka
 unfold SV.part at h
 split at h
 ·rename_i hc
  obtain⟨rfl,hz0,hk1⟩:=hc
  obtain rfl:=Option.some.inj h
  exact⟨v,hv,ha,hz0▸(SV.shape a v ha hv).1 k hk1,λj u hj=>by rw[Nat.zero_add];exact hj⟩
 ·obtain⟨x,p1,p2,p3,p4⟩:=sub_ok a off v a' ha hv h
  refine⟨x,p1,p2,p3,λj u hj=>?_⟩
  have:=p4 j u hj
  rw[xX hsv,Array.getElem?_toList] at this
  exact this
def tyNK (P:Program) (T:TypeId):Option (Nat×Bool):=match P.underlying T,P.info? T with
 | some d,some i=>some (i.size,d.isRow)
 | _,_=>none
variable {P:Program} {T:TypeId}
theorem tyNK_spec(h:tyNK P T=some (n,k)):∃d i,P.underlying T=some d/\P.info? T=some i/\i.size=n/\d.isRow=k:=by
 unfold tyNK at h
 split at h
 ·rename_i d i h1 h2
  simp only[Option.some.injEq,Prod.mk.injEq] at h
  exact⟨d,i,h1,h2,h.1,h.2⟩
 ·cases h
theorem load_at [Fz]{b o:Nat}{v:Value}(hT:tyNK P T=some (n,k))(hs:Shp k n v)(hc:∀j u,v.cells[j]?=some u->w.cell? ⟨b,o+j,none⟩=some u):(Instr.loadAt T (.pointer (some ⟨b,o,none⟩))).run P w=.ok v w:=by
 obtain⟨d,i,hu,hi,hz,hd⟩:=tyNK_spec hT
 cases k with
 | true=>
  obtain⟨cs,rfl⟩:=hs.2.2.1 rfl
  have h1:=hs.1
  have:=run_loadAt_mid (P:=P) w b o T cs.toList d (λj u hj=>hc j u (by rw[Array.getElem?_toList] at hj;exact hj)) hu hd (by rw[hi,Array.length_toList];show some i.size=some cs.size;rw[hz,←h1];rfl)
  simpa using this
 | false=>
  have h1:=hs.2.2.2 rfl
  have hcell:w.cell? ⟨b,o,none⟩=some v:=hc 0 v (by rw[xC h1];rfl)
  have hagg:(isAgg T).run P w=.ok false w:=by
   unfold isAgg
   rw[Sem.run_bind,run_underlying hu w]
   cases d<;>simp_all
  simp[Instr.loadAt,Instr.sureAddr,loadVar,Sem.run_bind,hagg,hcell]
theorem splice_cons [Fz]{cs l:List Value}{v:Value}{o:Nat}(ho:o<cs.length):(cs.set o v).take (o+1)++l++(cs.set o v).drop (o+1+l.length)=cs.take o++v::l++cs.drop (o+(v::l).length):=by
 have hlen:(cs.take o).length=o:=by rw[List.length_take];omega
 rw[List.set_eq_take_append_cons_drop,if_pos ho,List.take_append,List.drop_append,hlen,List.take_of_length_le (show(cs.take o).length<=o+1 by omega),List.drop_of_length_le (show(cs.take o).length<=o+1+l.length by omega),
  show o+1-o=1 by omega,show o+1+l.length-o=l.length+1 by omega]
 simp[List.drop_drop,Nat.add_comm,Nat.add_left_comm]
theorem jV [Fz]{t:TypeId}{g:Nat}:∀(l:List Value) (o:Nat) {w:World} {cs:Array Value},Blk w g t cs->o+l.length<=cs.size->∃cs':Array Value,Blk (w.setCells g o l) g t cs'/\cs'.toList=cs.toList.take o++l++cs.toList.drop (o+l.length)
 | [],o,_,cs,h,hl=>⟨cs,h,by simp⟩
 | v::l,o,w,cs,h,hl=>by
  obtain⟨cs',h1,h2⟩:=jV l (o+1) (h.set_ o v) (by simp only[List.length_cons,Array.size_setIfInBounds] at hl⊢;omega)
  refine⟨cs',h1,h2.trans ?_⟩
  rw[Array.toList_setIfInBounds]
  exact splice_cons (by rw[Array.length_toList];simp only[List.length_cons] at hl;omega)
theorem fold_set [Fz]:∀(l:List Value) (o j:Nat) (cs:Array Value),o+j+l.length<=cs.size->((l.zipIdx j).foldl (λcs (p:Value×Nat)=>cs.setIfInBounds (o+p.2) p.1) cs).toList=cs.toList.take (o+j)++l++cs.toList.drop (o+j+l.length)
 | [],o,j,cs,_=>by simp
 | v::l,o,j,cs,hl=>by
  simp only[List.length_cons] at hl
  rw[List.zipIdx_cons,List.foldl_cons,fold_set l o (j+1) _ (by rw[Array.size_setIfInBounds];omega),Array.toList_setIfInBounds]
  exact splice_cons (o:=o+j) (by rw[Array.length_toList];omega)
theorem fill_fold [Fz]{cs:Array Value}{v:Value}{off:Nat}(h:off+v.cells.size<=cs.size):(v.cells.zipIdx.foldl (λcs (c,j)=>cs.setIfInBounds (off+j) c) cs).toList=cs.toList.take off++v.cells.toList++cs.toList.drop (off+v.cells.size):=by
 have:=fold_set v.cells.toList off 0 cs (by rw[Array.length_toList];omega)
 rw[Nat.add_zero,Array.length_toList] at this
 rw[←this,←Array.foldl_toList,Array.toList_zipIdx]
theorem put_setCells{g o:Nat}{l:List Value}{t:TypeId}{cs:Array Value}(_:Blk w g t cs):Put w (w.setCells g o l) g:=by
 obtain⟨h1,h2,h3,h4⟩:=setCells_os g l o w
 refine⟨h4,λk hk=>?_,h1,h2,h3⟩
 rcases Nat.lt_or_ge k w.heap.size with h | h
 ·exact World.heap_setCells_other w g _ _ h hk
 ·rw[Array.getElem?_eq_none h,Array.getElem?_eq_none (by rw[h4];exact h)]
theorem store_at [Fz]{b o:Nat}{v:Value}{T':TypeId}{cs:Array Value}(hT:tyNK P T=some (n,k))(hs:Shp k n v)(hB:Blk w b T' cs)(hle:o+n<=cs.size):
  ∃w' cs',(Instr.storeAt T (.pointer (some ⟨b,o,none⟩)) v).run P w=.ok () w'/\Put w w' b/\Blk w' b T' cs'/\cs'.toList=cs.toList.take o++v.cells.toList++cs.toList.drop (o+n):=by
 obtain⟨d,i,hu,hi,hz,hd⟩:=tyNK_spec hT
 have hl:=hs.cells
 obtain⟨cs',hb',hcs'⟩:=jV v.cells.toList o hB zo
 rw[hl] at hcs'
 refine⟨_,cs',?_,put_setCells hB,hb',hcs'⟩
 have:=run_storeCells_cells (P:=P) b o v.cells.toList 0 w (λj hj=>by rw[hB.cell,Array.getElem?_eq_getElem zo];rfl) (λj hj=>hB.frozen _) hs.2.1
 have h2:v.cells.size=i.size:=by rw[hs.1,hz]
 simp only[Nat.add_zero] at this
 simp[Instr.storeAt,Instr.sureAddr,storeVar,Sem.run_bind,sizeOf,typeInfo,hi,h2,this]
end
open Go.RowKit
structure Res where
 sv:SV
 side:List Prop
 new:List (Nat×Hl)
 rd:List Nat
def bad:Res:=⟨.any,[False],[],[]⟩
def vl (a:SV) (side:List Prop):Res:=⟨a,side,[],[]⟩
def conj:List Prop->Prop
 | []=>True
 | [p]=>p
 | p::ps=>p/\conj ps
theorem xJ{p:Prop}{ps:List Prop}(h:conj (p::ps)):p/\conj ps:=by
 cases ps with
 | nil=>exact⟨h,trivial⟩
 | cons q qs=>exact h
theorem zD{ps qs:List Prop}(h:conj (ps++qs)):conj ps/\conj qs:=by
 induction ps with
 | nil=>exact⟨trivial,h⟩
 | cons p ps ih=>
  obtain⟨h1,h2⟩:=xJ h
  obtain⟨h3,h4⟩:=ih h2
  refine⟨?_,h4⟩
  cases ps with
  | nil=>exact h1
  | cons q qs=>exact⟨h1,h3⟩
theorem xG [Fz]{c:Hl}{i:Nat}{sd:List Prop}{o:OB}(h:c.gs i=(some o,sd))(hs:conj sd):c.get i=some o:=by
 cases c with
 | one ob=>
  cases i with
  | zero=>
   simp only[Hl.gs,Prod.mk.injEq] at h
   exact h.1
  | succ i=>simp[Hl.gs] at h
 | fam n f=>
  have h':(some (f i),[i<n])=(some o,sd):=by rw[←h];cases i<;>rfl
  simp only[Prod.mk.injEq] at h'
  obtain⟨e,rfl⟩:=h'
  rw[xK,if_pos (show i<n from hs)]
  exact e
 | hole n f m=>
  have h':(some (f i),[i<n,i≠m])=(some o,sd):=by rw[←h];cases i<;>rfl
  simp only[Prod.mk.injEq] at h'
  obtain⟨e,rfl⟩:=h'
  rw[jI,if_pos (show i<n/\i≠m from hs)]
  exact e
 | unborn=>cases i<;>simp[Hl.gs] at h
 | dead=>cases i<;>simp[Hl.gs] at h
def opd (fr:Tmp->SV):Operand->SV
 | .tmp t=>fr t
 | .const v=>.ex v
 | _=>.any
def exEq:Value->Value->List Prop
 | .int k a,.int k' b=>if k=k' then[a=b] else[False]
 | .bool a,.bool b=>[a=b]
 | .slice none 0 0,.slice none 0 0=>[]
 | u,v=>[u=v]
def exLe [Fz]:Value->SV->List Prop
  | _,.any=>[]
  | u,.ex v=>exEq u v
  | .slice none 0 0,.sl _ _ n=>[n=0]
  | .agg cs, .rat q => match cs.toList with
    | [.bool false,.slice none 0 0,.slice none 0 0]=>if Fz.on=true then[q=0] else[False]
    | _=>[False]
  | .agg cs, .nat x => match cs.toList with
    | [.slice none 0 0]=>if Fz.on=true then[x=0] else[False]
    | _=>[False]
  | .agg cs, .int x => match cs.toList with
    | [.bool false,.slice none 0 0]=>if Fz.on=true then[x=0] else[False]
    | _=>[False]
  | _,_=>[False]
def exLs [Fz]:List Value->SV->List Prop
 | [],.nl=>[]
 | .bool false::.slice none 0 0::.slice none 0 0::cs,.cn (.rat q) l=>(if Fz.on=true then q=0 else False)::exLs cs l
 | cs,.cn (.agg l1) l=>exLs (cs.take l1.sz) l1++exLs (cs.drop l1.sz) l
 | c::cs,.cn a l=>exLe c a++exLs cs l
 | _,_=>[False]
def SV.le [Fz]:SV->SV->List Prop
 | .ex (.agg cs),.agg l=>if cs.all (·.oneCell')=true then exLs cs.toList l else[False]
 | .ex u,b=>exLe u b
 | _,.any=>[]
 | .nat x,.nat y=>[x=y]
 | .int x,.int y=>[x=y]
 | .rat x,.rat y=>[x=y]
 | .sl s E n,.sl s' E' n'=>if s=s' then[n=n',∀i,i<n->conj (SV.le (E i) (E' i))] else[False]
 | .ep a,.ep b=>SV.le a b
 | .own k i,.own k' i'=>[k=k',i=i']
 | .ref k i s j off,.ref k' i' s' j' off'=>[k=k',i=i',s=s',j=j',off=off']
 | .nl,.nl=>[]
 | .cn a b,.cn a' b'=>SV.le a a'++SV.le b b'
 | .agg l,.agg l'=>SV.le l l'
 | .opt c a,.opt c' a'=>(c=c')::SV.le a a'
 | .ifc T a,.ifc T' a'=>if T=T' then SV.le a a' else[False]
 | .alt c a b,.alt c' a' b'=>(c=c')::(SV.le a a'++SV.le b b')
 | _,_=>[False]
section
variable {η:Eta} {A:Nat->Prop} {w:World} {v:Value}
theorem exEq_ok{u u':Value}(h:conj (exEq u u')):u=u':=by
 unfold exEq at h
 split at h
 ·split at h
  ·rename_i e;subst e;rw[show _=_ from h]
  ·exact h.elim
 ·rw[show _=_ from h]
 ·rfl
 ·exact h
theorem on_conj [Fz]{l:List Prop}(h:conj (if Fz.on=true then l else[False])):Fz.on=true/\conj l:=by
 split at h
 ·rename_i e;exact⟨e,h⟩
 ·exact h.elim
theorem kW [Fz]{u:Value}{b:SV}(h:conj (exLe u b)):b.R η A w u:=by
 unfold exLe at h
 split at h
 ·trivial
 ·exact exEq_ok h
 ·rename_i n
  obtain rfl:n=0:=h
  exact⟨none,0,rfl,λ_=>⟨rfl,rfl⟩,Nat.le_refl _,Nat.zero_le _,λi hi=>by omega⟩
 ·rename_i cs q
  split at h
  ·rename_i e
   obtain⟨hon,h⟩:=on_conj h
   obtain rfl:q=0:=h
   have:cs=#[.bool false,.slice none 0 0,.slice none 0 0]:=by rw[←Array.toList_inj];exact e
   subst this
   exact⟨zRat w,hon⟩
  ·exact h.elim
 ·rename_i cs q
  split at h
  ·rename_i e
   obtain⟨hon,h⟩:=on_conj h
   obtain rfl:q=0:=h
   have:cs=#[.slice none 0 0]:=by rw[←Array.toList_inj];exact e
   subst this
   exact⟨zNat w,hon⟩
  ·exact h.elim
 ·rename_i cs q
  split at h
  ·rename_i e
   obtain⟨hon,h⟩:=on_conj h
   obtain rfl:q=0:=h
   have:cs=#[.bool false,.slice none 0 0]:=by rw[←Array.toList_inj];exact e
   subst this
   exact⟨zInt w,hon⟩
  ·exact h.elim
 ·exact h.elim
theorem exLs_ok [Fz]:∀(cs:List Value) (l:SV),(∀c∈cs,c.oneCell'=true)->conj (exLs cs l)->∃vs:List Value,l.R η A w (.tuple vs.toArray)/\flat vs=cs:=by
 intro cs l
 fun_induction exLs cs l with
 | case1=>intro _ _;exact⟨[],rfl,rfl⟩
 | case2 cs q l ih=>
  intro hc h
  obtain⟨h1,h2⟩:=xJ h
  obtain⟨vs,h3,h4⟩:=ih (λc h=>hc c (by simp[h])) h2
  split at h1
  ·rename_i hon
   subst h1
   exact⟨.agg #[.bool false,.slice none 0 0,.slice none 0 0]::vs,⟨_,vs,rfl,⟨zRat w,hon⟩,h3⟩,by rw[yV,h4];rfl⟩
  ·exact h1.elim
 | case3 cs l1 l ih1 ih2=>
  intro hc h
  obtain⟨h1,h2⟩:=zD h
  obtain⟨vs1,h3,h4⟩:=ih1 (λc h=>hc c (List.mem_of_mem_take h)) h1
  obtain⟨vs2,h5,h6⟩:=ih2 (λc h=>hc c (List.mem_of_mem_drop h)) h2
  exact⟨.agg (flat vs1).toArray::vs2,⟨_,vs2,rfl,⟨vs1,rfl,h3⟩,h5⟩,by rw[yV,agg_cells,h4,h6,List.take_append_drop]⟩
 | case4 c cs a l _ _ ih=>
  intro hc h
  obtain⟨h1,h2⟩:=zD h
  obtain⟨vs,h3,h4⟩:=ih (λc h=>hc c (by simp[h])) h2
  exact⟨c::vs,⟨c,vs,rfl,kW h1,h3⟩,by rw[yV,h4,xC (hc c (by simp))];rfl⟩
 | case5=>intro _ h;exact h.elim
theorem SV.le_ok [Fz]:∀(a b:SV) (v:Value),conj (SV.le a b)->a.R η A w v->b.R η A w v:=by
 intro a
 induction a with
 | any=>intro b v h _;cases b<;>first | trivial | exact h.elim
 | ex u=>
  intro b v h hv
  obtain rfl:v=u:=hv
  cases b with
  | agg l=>
   cases v with
   | agg cs=>
    have h':conj (if cs.all (·.oneCell')=true then exLs cs.toList l else[False]):=h
    split at h'
    ·rename_i hs
     obtain⟨vs,h1,h2⟩:=exLs_ok (η:=η) (A:=A) (w:=w) cs.toList l (λc hc=>Array.all_eq_true_iff_forall_mem.1 hs c (by simpa using hc)) h'
     exact⟨vs,by rw[h2],h1⟩
    ·exact h'.elim
   | _=>exact kW h
  | _=>cases v<;>exact kW h
 | nat x=>intro b v h hv;cases b<;>first | trivial | exact h.elim | (rw[←show x=_ from h];exact hv)
 | int x=>intro b v h hv;cases b<;>first | trivial | exact h.elim | (rw[←show x=_ from h];exact hv)
 | rat x=>intro b v h hv;cases b<;>first | trivial | exact h.elim | (rw[←show x=_ from h];exact hv)
 | sl s E n ih=>
  intro b v h hv
  cases b<;>first | trivial | exact h.elim | skip
  rename_i s' E' n'
  have h':conj (if s=s' then[n=n',∀i,i<n->conj (SV.le (E i) (E' i))] else[False]):=h
  split at h'
  ·rename_i e
   subst e
   obtain⟨e,h2⟩:=h'
   subst e
   obtain⟨A0,c,ev,h3,h4,h5,k⟩:=hv
   refine⟨A0,c,ev,h3,h4,h5,λi hi=>?_⟩
   obtain⟨g,o,e1,e2,e3,e0,e4,e5,e6⟩:=k i hi
   exact⟨g,o,e1,e2,e3,e0,e4,ih i _ _ (h2 i hi) e5,e6⟩
  ·exact h'.elim
 | ep a ih=>
  intro b v h hv
  cases b<;>first | trivial | exact h.elim | skip
  obtain⟨g,o,e1,e2,e3,e0,e5,e6⟩:=hv
  exact⟨g,o,e1,e2,e3,e0,ih _ _ h e5,e6⟩
 | own k i=>
  intro b v h hv
  cases b<;>first | trivial | exact h.elim | skip
  rename_i k' i'
  obtain⟨rfl,e⟩:=h
  obtain rfl:i=i':=e
  exact hv
 | ref k i s j off=>
  intro b v h hv
  cases b<;>first | trivial | exact h.elim | skip
  obtain⟨e1,e2,e3,e4,e5⟩:=h
  subst e1;subst e2;subst e3;subst e4;subst e5
  exact hv
 | nl=>intro b v h hv;cases b<;>first | trivial | exact h.elim | exact hv
 | cn a b iha ihb=>
  intro b v h hv
  cases b<;>first | trivial | exact h.elim | skip
  obtain⟨h1,h2⟩:=zD h
  obtain⟨x,xs,e,e1,e2⟩:=hv
  exact⟨x,xs,e,iha _ _ h1 e1,ihb _ _ h2 e2⟩
 | agg l ih=>
  intro b v h hv
  cases b<;>first | trivial | exact h.elim | skip
  obtain⟨vs,e,e1⟩:=hv
  exact⟨vs,e,ih _ _ h e1⟩
 | opt c a ih=>
  intro b v h hv
  cases b<;>first | trivial | exact h.elim | skip
  obtain⟨h1,h2⟩:=xJ h
  subst h1
  exact⟨λhc=>ih _ _ h2 (hv.1 hc),hv.2⟩
 | ifc T a ih=>
  intro b v h hv
  cases b<;>first | trivial | exact h.elim | skip
  rename_i T' a'
  have h':conj (if T=T' then SV.le a a' else[False]):=h
  split at h'
  ·rename_i e
   subst e
   obtain⟨u,e1,h1⟩:=hv
   exact⟨u,e1,ih _ _ h' h1⟩
  ·exact h'.elim
 | alt c a b iha ihb=>
  intro b v h hv
  cases b<;>first | trivial | exact h.elim | skip
  obtain⟨h1,h2⟩:=xJ h
  obtain⟨h2,h3⟩:=zD h2
  subst h1
  exact⟨λhc=>iha _ _ h2 (hv.1 hc),λhc=>ihb _ _ h3 (hv.2 hc)⟩
end
open Go.RowKit
inductive Hint where
 | no
 | k (j:Nat)
 | z (r:Int)
 | row (j:Nat) (E:Nat->SV)
 | kk (l r:Nat)
 | rowF (E:Nat->SV) (f:Nat->OB)
 | call (A:List SV) (R:SV) (news:List Hl)
 | callS (R:SV) (news:List Hl)
 | callM (ids:List Nat) (ins:List Hl) (A:List SV) (R:SV) (outs:List Hl)
 | as (h:Hint) (a:SV)
 | sure (h:Hint)
 | skip
def yA (own:Nat->Hl) (l:List (Nat×Hl)):Nat->Hl:=l.foldl (λown p=>zY own p.1 p.2) own
def Snd [Fz] (P:Program) (o:Oper) (ρ:Operand->Value) (M F:Nat->Prop) (w0:World) (own:Nat->Hl) (η:Eta) (w:World) (r:Res):Prop:=
 Yld P o ρ w λv w'=>∃η',Hp M F w0 (yA own r.new) η' w'/\Keep η η' (Av F own η) (Av F (yA own r.new) η') w w'/\r.sv.R η' (Av F (yA own r.new) η') w' v
section
variable {P:Program} {o:Oper} {ρ:Operand->Value} {M F:Nat->Prop} {w0 w:World} {own:Nat->Hl} {η:Eta} {x y:Operand} {a b:SV}
theorem zR [Fz]{a:SV}{side:List Prop}{rd:List Nat}{v:Value}(H:Hp M F w0 own η w)(h:(execOp ρ o).run P w=.ok (.value v) w)(hR:a.R η (Av F own η) w v):Snd P o ρ M F w0 own η w ⟨a,side,[],rd⟩:=
 yQ h ⟨η,H,Keep.weak λ_ _ h=>h,hR⟩
theorem snd_move [Fz](H:Hp M F w0 own η w)(h:o.op=.move x∨o.op=.assign x)(hx:a.R η (Av F own η) w (ρ x)){side:List Prop}{rd:List Nat}:Snd P o ρ M F w0 own η w ⟨a,side,[],rd⟩:=
 zR H (by unfold execOp;rcases h with h | h<;>rw[h]<;>rfl) hx
def boolOf:SV->Option (Bool×List Bool)
 | .ex (.bool t)=>some (t,[])
 | .opt c (.ex (.bool t))=>some (t,[c])
 | _=>none
def impl (t:Bool) (cs:List Bool):List Prop:=cs.map λc=>t=true->c=true
def pickR (c a b:SV):Res:=match c,boolOf a,boolOf b with
 | .ex (.bool t),some (p,cs),some (q,ds)=>vl (.ex (.bool (bif t then p else q))) (impl t cs++impl (!t) ds)
 | _,_,_=>bad
theorem boolOf_ok [Fz]{t:Bool}{v:Value}{A:Nat->Prop}{p:Bool}{cs:List Bool}(h:boolOf a=some (p,cs))(hc:conj (impl t cs))(ht:t=true)(hv:a.R η A w v):v=.bool p:=by
 unfold boolOf at h
 split at h
 ·simp only[Option.some.injEq,Prod.mk.injEq] at h
  obtain⟨rfl,rfl⟩:=h
  exact hv
 ·simp only[Option.some.injEq,Prod.mk.injEq] at h
  obtain⟨rfl,rfl⟩:=h
  exact hv.1 (hc ht)
 ·cases h
theorem snd_pick [Fz]{c z:Operand}{cc:SV}(H:Hp M F w0 own η w)(h:o.op=.pick c x z)(hc:cc.R η (Av F own η) w (ρ c))(hx:a.R η (Av F own η) w (ρ x))(hz:b.R η (Av F own η) w (ρ z))(hs:conj (pickR cc a b).side):Snd P o ρ M F w0 own η w (pickR cc a b):=by
 unfold pickR at hs⊢
 split at hs
 ·rename_i t p cs q ds ha hb
  have hc:ρ c=.bool t:=hc
  obtain⟨h1,h2⟩:=zD (show conj (impl t cs++impl (!t) ds) from hs)
  refine zR H (v:=.bool (bif t then p else q)) ?_ rfl
  unfold execOp
  rw[h]
  cases t with
  | true=>simp[hc,asBool,boolOf_ok ha h1 rfl hx]
  | false=>simp[hc,asBool,boolOf_ok hb h2 rfl hz]
 ·exact hs.elim
def pickH (c a b:SV):Hint->Res
  | .sure _ => match c, boolOf a with
    | .ex (.bool t),some (p,cs)=>vl (.ex (.bool p)) ((t=true)::cs.map λc=>c=true)
    | _,_=>bad
  | .skip => match c, boolOf b with
    | .ex (.bool t),some (p,cs)=>vl (.ex (.bool p)) ((t=false)::cs.map λc=>c=true)
    | _,_=>bad
  | _=>pickR c a b
theorem all_impl{t:Bool}:∀{cs:List Bool},conj (cs.map λc=>c=true)->conj (impl t cs)
 | [],_=>trivial
 | [_],h=>λ_=>h
 | _::d::l,h=>⟨λ_=>h.1,all_impl (cs:=d::l) h.2⟩
theorem snd_pickH [Fz]{c z:Operand}{cc:SV}{hi:Hint}(H:Hp M F w0 own η w)(h:o.op=.pick c x z)(hc:cc.R η (Av F own η) w (ρ c))(hx:a.R η (Av F own η) w (ρ x))(hz:b.R η (Av F own η) w (ρ z))(hs:conj (pickH cc a b hi).side):Snd P o ρ M F w0 own η w (pickH cc a b hi):=by
 unfold pickH at hs⊢
 split at hs
 ·split at hs
  ·rename_i t p cs ha
   have hc:ρ c=.bool t:=hc
   obtain⟨rfl,h2⟩:=xJ hs
   refine zR H (v:=.bool p) ?_ rfl
   unfold execOp
   rw[h]
   simp[hc,asBool,boolOf_ok ha (all_impl h2) rfl hx]
  ·exact hs.elim
 ·split at hs
  ·rename_i t p cs ha
   have hc:ρ c=.bool t:=hc
   obtain⟨rfl,h2⟩:=xJ hs
   refine zR H (v:=.bool p) ?_ rfl
   unfold execOp
   rw[h]
   simp[hc,asBool,boolOf_ok (t:=true) ha (all_impl h2) rfl hz]
  ·exact hs.elim
 ·exact snd_pick H h hc hx hz hs
def arith (k:IntKind) (z:Int):Hint->Res
 | .z r=>vl (.ex (.int k r)) [k.wrap z=r]
 | _=>vl (.ex (.int k z)) [k.wrap z=z]
def binI (op:BinOp) (k:IntKind) (p q:Int) (h:Hint):Res:=match op with
  | .add=>arith k (p+q) h
  | .sub=>arith k (p-q) h
  | .mul=>arith k (p*q) h
  | .quo => match h with
    | .z r=>vl (.ex (.int k r)) [q≠0,k.wrap (p.tdiv q)=r]
    | _=>bad
  | .rem => match h with
    | .z r=>vl (.ex (.int k r)) [q≠0,p.tmod q=r]
    | _=>bad
  | .eql=>vl (.ex (.bool (decide (p=q)))) []
  | .neq=>vl (.ex (.bool (!decide (p=q)))) []
  | .lss=>vl (.ex (.bool (decide (p<q)))) []
  | .leq=>vl (.ex (.bool (decide (p<=q)))) []
  | .gtr=>vl (.ex (.bool (decide (q<p)))) []
  | .geq=>vl (.ex (.bool (decide (q<=p)))) []
  | _=>bad
def binR (P:Program) (op:BinOp) (t:TypeId) (a b:SV) (h:Hint):Res:=match a,b with
  | .ex (.int k p),.ex (.int k' q)=>if k=k' then binI op k p q h else bad
  | .ex (.bool p), .ex (.bool q) => match P.underlying t, op with
    | some .bool,.eql=>vl (.ex (.bool (p==q))) []
    | some .bool,.neq=>vl (.ex (.bool (!(p==q)))) []
    | _,_=>bad
  | .ex (.string p), .ex (.string q) => match op with
    | .eql=>vl (.ex (.bool (p.toList==q.toList))) []
    | .neq=>vl (.ex (.bool (!(p.toList==q.toList)))) []
    | _=>bad
  | _,_=>bad
theorem run_binI [Fz]{op:BinOp}{t t':TypeId}{k:IntKind}{p q:Int}(h:o.op=.binOp op t x y t')(hx:ρ x=.int k p)(hy:ρ y=.int k q):(execOp ρ o).run P w=((binOp op t (.int k p) (.int k q)).run P w).andThen λv w=>.ok (.value v) w:=by
 unfold execOp
 rw[h]
 simp only[hx,hy]
 cases op<;>simp[eqGuard]
theorem snd_binI [Fz]{op:BinOp}{t t':TypeId}{k:IntKind}{p q:Int}{hi:Hint}(H:Hp M F w0 own η w)(h:o.op=.binOp op t x y t')(hx:ρ x=.int k p)(hy:ρ y=.int k q)(hs:conj (binI op k p q hi).side):Snd P o ρ M F w0 own η w (binI op k p q hi):=by
 have hr:=run_binI (P:=P) (w:=w) h hx hy
 have key:∀v,(binOp op t (.int k p) (.int k q)).run P w=.ok v w->(execOp ρ o).run P w=.ok (.value v) w:=λv hv=>by rw[hr,hv];rfl
 have ari:∀z,(binOp op t (.int k p) (.int k q)).run P w=.ok (.int k (k.wrap z)) w->conj (arith k z hi).side->Snd P o ρ M F w0 own η w (arith k z hi):=λz hz hs=>by
  cases hi with
  | z r=>exact zR H (key _ hz) (by show Value.int k _=_;rw[show k.wrap z=r from hs])
  | _=>exact zR H (key _ hz) (by show Value.int k _=_;rw[show k.wrap z=z from hs])
 cases op
 case add=>exact ari _ (by simp[binOp,Op.intArith]) hs
 case sub=>exact ari _ (by simp[binOp,Op.intArith]) hs
 case mul=>exact ari _ (by simp[binOp,Op.intArith]) hs
 case quo=>
  unfold binI at hs⊢
  cases hi<;>first | exact hs.elim | skip
  rename_i r
  obtain⟨h1,h2⟩:=hs
  exact zR H (key (.int k (k.wrap (p.tdiv q))) (by simp[binOp,Op.intDiv,h1])) (by show Value.int k _=_;rw[show k.wrap (p.tdiv q)=r from h2])
 case rem=>
  unfold binI at hs⊢
  cases hi<;>first | exact hs.elim | skip
  rename_i r
  obtain⟨h1,h2⟩:=hs
  exact zR H (key (.int k (p.tmod q)) (by simp[binOp,Op.intDiv,h1])) (by show Value.int k _=_;rw[show p.tmod q=r from h2])
 case eql=>exact zR H (key (.bool (p==q)) (by simp[binOp,Op.intCmp])) rfl
 case neq=>exact zR H (key (.bool (p !=q)) (by simp[binOp,Op.intCmp])) rfl
 case lss=>exact zR H (key (.bool (decide (p<q))) (by simp[binOp,Op.intCmp])) rfl
 case leq=>exact zR H (key (.bool (decide (p<=q))) (by simp[binOp,Op.intCmp])) rfl
 case gtr=>exact zR H (key (.bool (decide (p>q))) (by simp[binOp,Op.intCmp])) rfl
 case geq=>exact zR H (key (.bool (decide (p>=q))) (by simp[binOp,Op.intCmp])) rfl
 all_goals exact hs.elim
theorem snd_bin [Fz]{op:BinOp}{t t':TypeId}{hi:Hint}(H:Hp M F w0 own η w)(h:o.op=.binOp op t x y t')(hx:a.R η (Av F own η) w (ρ x))(hy:b.R η (Av F own η) w (ρ y))(hs:conj (binR P op t a b hi).side):Snd P o ρ M F w0 own η w (binR P op t a b hi):=by
 unfold binR at hs⊢
 split at hs
 ·rename_i k p k' q
  split at hs
  ·rename_i e
   subst e
   rw[if_pos rfl]
   exact snd_binI H h hx hy hs
  ·exact hs.elim
 ·rename_i p q
  have hx:ρ x=.bool p:=hx
  have hy:ρ y=.bool q:=hy
  split at hs
  ·rename_i ht
   refine zR H (v:=.bool (p==q)) ?_ rfl
   unfold execOp;rw[h];simp only[hx,hy]
   show((do eqGuard .eql t x y (.bool p) (.bool q);binOp .eql t (.bool p) (.bool q))>>=λv=>pure (Next.value v):Sem Next).run P w=_
   simp only[Sem.run_bind,guard_bool,Sem.run_pure,Result.andThen_ok]
   rw[show binOp .eql t (.bool p) (.bool q)=(do pure (.bool (←Op.equal t (.bool p) (.bool q)))) from rfl]
   simp only[Sem.run_bind,equal_bool ht,Result.andThen_ok,Sem.run_pure]
  ·rename_i ht
   refine zR H (v:=.bool (!(p==q))) ?_ rfl
   unfold execOp;rw[h];simp only[hx,hy]
   show((do eqGuard .neq t x y (.bool p) (.bool q);binOp .neq t (.bool p) (.bool q))>>=λv=>pure (Next.value v):Sem Next).run P w=_
   simp only[Sem.run_bind,guard_bool,Sem.run_pure,Result.andThen_ok]
   rw[show binOp .neq t (.bool p) (.bool q)=(do pure (.bool (!(←Op.equal t (.bool p) (.bool q))))) from rfl]
   simp only[Sem.run_bind,equal_bool ht,Result.andThen_ok,Sem.run_pure]
  ·exact hs.elim
 ·rename_i p q
  have hx:ρ x=.string p:=hx
  have hy:ρ y=.string q:=hy
  split at hs
  ·exact zR H (v:=.bool (p.toList==q.toList)) (by unfold execOp;rw[h];simp only[hx,hy];rfl) rfl
  ·exact zR H (v:=.bool (!(p.toList==q.toList))) (by unfold execOp;rw[h];simp only[hx,hy];rfl) rfl
  ·exact hs.elim
 ·exact hs.elim
def ptrNil (own:Nat->Hl):SV->Option (Bool×List Nat)
  | .ep _=>some (false,[])
  | .ref ..=>some (false,[])
  | .ex (.pointer none)=>some (true,[])
  | .own k i => match (own k).gs i with
    | (some (.var ..),[])=>some (false,[k])
    | _=>none
  | _=>none
theorem ptrNil_ok [Fz]{own':Nat->Hl}{b:Bool}{rd:List Nat}{v:Value}(H:Hp M F w0 own η w)(h:ptrNil own' a=some (b,rd))(ho:∀k∈rd,own k=own' k)(hv:a.R η (Av F own η) w v):(b=true/\v=.pointer none)∨(b=false/\∃x,v=.pointer (some x)):=by
 unfold ptrNil at h
 split at h
 ·obtain⟨rfl,rfl⟩:=Prod.mk.inj (Option.some.inj h)
  obtain⟨g,o,e,_⟩:=hv
  exact .inr ⟨rfl,_,e⟩
 ·obtain⟨rfl,rfl⟩:=Prod.mk.inj (Option.some.inj h)
  obtain⟨_,_,_,_,e⟩:=hv
  exact .inr ⟨rfl,_,e⟩
 ·obtain⟨rfl,rfl⟩:=Prod.mk.inj (Option.some.inj h)
  exact .inl ⟨rfl,hv⟩
 ·rename_i k i
  split at h
  ·rename_i T c q hg
   obtain⟨rfl,rfl⟩:=Prod.mk.inj (Option.some.inj h)
   rw[←ho k (List.mem_singleton.2 rfl)] at hg
   obtain⟨hd,he,bb,u,e,_⟩:=H.ob k i _ (xG hg trivial)
   have h1:=hv.1
   rw[h1] at he
   exact .inr ⟨rfl,_,(Option.some.inj he).trans e⟩
  ·cases h
 ·cases h
def nilR (own:Nat->Hl) (a:SV):Res:=match ptrNil own a with
 | some (false,rd)=>⟨a,[],[],rd⟩
 | _=>bad
theorem snd_nil [Fz]{own':Nat->Hl}{r:Res}(H:Hp M F w0 own η w)(h:o.op=.nilCheck x)(hx:a.R η (Av F own η) w (ρ x))(hr:nilR own' a=r)(ho:∀k∈r.rd,own k=own' k)(hs:conj r.side):Snd P o ρ M F w0 own η w r:=by
 unfold nilR at hr
 split at hr
 ·rename_i rd e
  subst hr
  rcases ptrNil_ok H e ho hx with⟨h1,_⟩ | ⟨_,y,hy⟩
  ·cases h1
  ·exact zR H (v:=ρ x) (by unfold execOp;rw[h];simp only[hy];rfl) hx
 ·subst hr;exact hs.elim
theorem equal_ptr{t e:TypeId}{p q:Option Addr}(ht:P.underlying t=some (.pointer e))(hn:p=none∨q=none):(Op.equal t (.pointer p) (.pointer q)).run P w=.ok (p.isNone&&q.isNone) w:=by
 have key:∀d,(Op.equalIn (d+1) t (.pointer p) (.pointer q)).run P w=.ok (p.isNone&&q.isNone) w:=λd=>by
  rw[Op.equalIn]
  cases p with
  | none=>simp only[Sem.run_bind,run_underlying ht w,Result.andThen_ok,Sem.run_pure];rfl
  | some p=>
   obtain rfl:q=none:=hn.resolve_left (by simp)
   simp only[Sem.run_bind,run_underlying ht w,Result.andThen_ok,Sem.run_pure];rfl
 exact key 9999
def slcNil:SV->Option (Bool×List Prop)
 | .sl _ _ n=>some (false,[0<n])
 | .ex (.slice none 0 0)=>some (true,[])
 | .ex (.slice (some _) _ _)=>some (false,[])
 | _=>none
theorem slcNil_ok [Fz]{η:Eta}{A:Nat->Prop}{b:Bool}{sd:List Prop}{v:Value}(h:slcNil a=some (b,sd))(hs:conj sd)(hv:a.R η A w v):∃ad n c,v=.slice ad n c/\ad.isNone=b:=by
 unfold slcNil at h
 split at h
 ·obtain⟨rfl,rfl⟩:=Prod.mk.inj (Option.some.inj h)
  obtain⟨A0,c,e,h1,_⟩:=hv
  refine⟨A0,_,c,e,?_⟩
  cases A0 with
  | none=>have h2:=(h1 rfl).1;have h3:0<_:=hs;omega
  | some a=>rfl
 ·obtain⟨rfl,rfl⟩:=Prod.mk.inj (Option.some.inj h)
  exact⟨none,0,0,hv,rfl⟩
 ·rename_i ad n c
  obtain⟨rfl,rfl⟩:=Prod.mk.inj (Option.some.inj h)
  exact⟨some ad,n,c,hv,rfl⟩
 ·cases h
def slcR (P:Program) (op:BinOp) (t:TypeId) (a b:SV) (h:Hint):Res:=match slcNil a,b with
  | some (p, sd), .ex (.slice none 0 0) => match P.underlying t, op with
    | some (.slice _),.eql=>⟨.ex (.bool p),sd,[],[]⟩
    | some (.slice _),.neq=>⟨.ex (.bool (!p)),sd,[],[]⟩
    | _,_=>bad
  | _,_=>binR P op t a b h
theorem snd_slc [Fz]{op:BinOp}{t t':TypeId}{hi:Hint}{r:Res}(H:Hp M F w0 own η w)(h:o.op=.binOp op t x y t')(hx:a.R η (Av F own η) w (ρ x))(hy:b.R η (Av F own η) w (ρ y))(hr:slcR P op t a b hi=r)(hs:conj r.side):Snd P o ρ M F w0 own η w r:=by
 unfold slcR at hr
 split at hr
 ·rename_i p sd hp
  have hy:ρ y=.slice none 0 0:=hy
  split at hr
  ·rename_i e ht
   subst hr
   obtain⟨ad,n,c,e1,e2⟩:=slcNil_ok hp hs hx
   refine zR H (v:=.bool p) ?_ rfl
   unfold execOp;rw[h];simp only[e1,hy]
   show((do eqGuard .eql t x y (.slice ad n c) (.slice none 0 0);binOp .eql t (.slice ad n c) (.slice none 0 0))>>=λv=>pure (Next.value v):Sem Next).run P w=_
   rw[show eqGuard .eql t x y (.slice ad n c) (.slice none 0 0)=pure () from rfl]
   simp only[Sem.run_bind,Sem.run_pure,Result.andThen_ok,Lib.run_eql_slice_nil w t e ad n c 0 0 ht,e2]
  ·rename_i e ht
   subst hr
   obtain⟨ad,n,c,e1,e2⟩:=slcNil_ok hp hs hx
   refine zR H (v:=.bool (!p)) ?_ rfl
   unfold execOp;rw[h];simp only[e1,hy]
   show((do eqGuard .neq t x y (.slice ad n c) (.slice none 0 0);binOp .neq t (.slice ad n c) (.slice none 0 0))>>=λv=>pure (Next.value v):Sem Next).run P w=_
   rw[show eqGuard .neq t x y (.slice ad n c) (.slice none 0 0)=pure () from rfl]
   have hq:=Lib.run_eql_slice_nil (P:=P) w t e ad n c 0 0 ht
   have hn:(binOp .neq t (.slice ad n c) (.slice none 0 0)).run P w=.ok (.bool (!ad.isNone)) w:=by
    rw[show binOp .eql t (.slice ad n c) (.slice none 0 0)=(do pure (.bool (←Op.equal t (.slice ad n c) (.slice none 0 0)))) from rfl] at hq
    rw[show binOp .neq t (.slice ad n c) (.slice none 0 0)=(do pure (.bool (!(←Op.equal t (.slice ad n c) (.slice none 0 0))))) from rfl]
    simp only[Sem.run_bind] at hq⊢
    cases hE:(Op.equal t (.slice ad n c) (.slice none 0 0)).run P w with
    | ok b w2=>
     rw[hE] at hq
     simp only[Result.andThen_ok,Sem.run_pure,Result.ok.injEq,Value.bool.injEq] at hq⊢
     rw[hq.1,hq.2];exact⟨rfl,rfl⟩
    | _=>rw[hE] at hq;cases hq
   simp only[Sem.run_bind,Sem.run_pure,Result.andThen_ok,hn,e2]
  ·subst hr;exact hs.elim
 ·subst hr;exact snd_bin H h hx hy hs
def eqR (P:Program) (op:BinOp) (t:TypeId) (a b:SV) (own:Nat->Hl) (h:Hint):Res:=match ptrNil own a,ptrNil own b with
  | some (p, r), some (q, s) => match P.underlying t, (p || q), op with
    | some (.pointer _),true,.eql=>⟨.ex (.bool (p&&q)),[],[],r++s⟩
    | some (.pointer _),true,.neq=>⟨.ex (.bool (!(p&&q))),[],[],r++s⟩
    | _,_,_=>bad
  | _,_=>slcR P op t a b h
theorem snd_eq [Fz]{op:BinOp}{t t':TypeId}{hi:Hint}{own':Nat->Hl}{r:Res}(H:Hp M F w0 own η w)(h:o.op=.binOp op t x y t')(hx:a.R η (Av F own η) w (ρ x))(hy:b.R η (Av F own η) w (ρ y))(hr:eqR P op t a b own' hi=r)(ho:∀k∈r.rd,own k=own' k)(hs:conj r.side):Snd P o ρ M F w0 own η w r:=by
 unfold eqR at hr
 split at hr
 ·rename_i p r1 q r2 hp hq
  have val:∀(rd:List Nat),(∀k∈r1++r2,k∈rd)->(∀k∈rd,own k=own' k)->(p||q)=true->∃u v,ρ x=.pointer u/\ρ y=.pointer v/\u.isNone=p/\v.isNone=q/\(u=none∨v=none):=λrd hin ho hpq=>by
   rcases ptrNil_ok H hp (λk hk=>ho k (hin k (List.mem_append_left _ hk))) hx with⟨h1,h2⟩ | ⟨h1,u,h2⟩
   ·rcases ptrNil_ok H hq (λk hk=>ho k (hin k (List.mem_append_right _ hk))) hy with⟨h3,h4⟩ | ⟨h3,v,h4⟩
    ·exact⟨none,none,h2,h4,h1.symm,h3.symm,.inl rfl⟩
    ·exact⟨none,some v,h2,h4,h1.symm,h3.symm,.inl rfl⟩
   ·rcases ptrNil_ok H hq (λk hk=>ho k (hin k (List.mem_append_right _ hk))) hy with⟨h3,h4⟩ | ⟨h3,v,h4⟩
    ·exact⟨some u,none,h2,h4,h1.symm,h3.symm,.inr rfl⟩
    ·rw[h1,h3] at hpq;cases hpq
  split at hr
  ·rename_i e ht hpq
   subst hr
   obtain⟨u,v,h1,h2,h3,h4,h5⟩:=val (r1++r2) (λ_ h=>h) ho hpq
   refine zR H (v:=.bool (p&&q)) ?_ rfl
   unfold execOp;rw[h];simp only[h1,h2]
   show((do eqGuard .eql t x y (.pointer u) (.pointer v);binOp .eql t (.pointer u) (.pointer v))>>=λv=>pure (Next.value v):Sem Next).run P w=_
   rw[show eqGuard .eql t x y (.pointer u) (.pointer v)=pure () from rfl,show binOp .eql t (.pointer u) (.pointer v)=(do pure (.bool (←Op.equal t (.pointer u) (.pointer v)))) from rfl]
   simp only[Sem.run_bind,equal_ptr ht h5,Result.andThen_ok,Sem.run_pure,h3,h4]
  ·rename_i e ht hpq
   subst hr
   obtain⟨u,v,h1,h2,h3,h4,h5⟩:=val (r1++r2) (λ_ h=>h) ho hpq
   refine zR H (v:=.bool (!(p&&q))) ?_ rfl
   unfold execOp;rw[h];simp only[h1,h2]
   show((do eqGuard .neq t x y (.pointer u) (.pointer v);binOp .neq t (.pointer u) (.pointer v))>>=λv=>pure (Next.value v):Sem Next).run P w=_
   rw[show eqGuard .neq t x y (.pointer u) (.pointer v)=pure () from rfl,show binOp .neq t (.pointer u) (.pointer v)=(do pure (.bool (!(←Op.equal t (.pointer u) (.pointer v))))) from rfl]
   simp only[Sem.run_bind,equal_ptr ht h5,Result.andThen_ok,Sem.run_pure,h3,h4]
  ·subst hr;exact hs.elim
 ·exact snd_slc H h hx hy hr hs
def ifcNil:SV->Option Bool
  | .ex .nilIface=>some true
  | .ex (.iface ..)=>some false
  | .ifc ..=>some false
  | .alt c a b => match ifcNil a, ifcNil b with
    | some p,some q=>some (bif c then p else q)
    | _,_=>none
  | _=>none
theorem ifcNil_ok [Fz]{η:Eta}{A:Nat->Prop}:∀{a:SV} {b:Bool} {v:Value},ifcNil a=some b->a.R η A w v->(b=true/\v=.nilIface)∨(b=false/\∃t u,v=.iface t u):=by
 intro a
 induction a with
 | ex u=>
  intro b v h hv
  obtain rfl:v=u:=hv
  cases v<;>first | cases h | skip
  ·exact .inr ⟨rfl,_,_,rfl⟩
  ·exact .inl ⟨rfl,rfl⟩
 | ifc T a ih=>
  intro b v h hv
  obtain rfl:false=b:=Option.some.inj h
  obtain⟨u,e,_⟩:=hv
  exact .inr ⟨rfl,_,_,e⟩
 | alt c a b iha ihb=>
  intro r v h hv
  unfold ifcNil at h
  split at h
  ·rename_i p q hp hq
   obtain rfl:=Option.some.inj h
   cases c with
   | true=>exact iha hp (hv.1 rfl)
   | false=>exact ihb hq (hv.2 rfl)
  ·cases h
 | _=>intro b v h;cases h
def isK:Operand->Bool
 | .const _=>true
 | _=>false
def ifR (P:Program) (op:BinOp) (t:TypeId) (k:Bool) (a b:SV) (own:Nat->Hl) (h:Hint):Res:=match ifcNil a,b with
  | some p, .ex .nilIface => match P.underlying t, op, k with
    | some (.interface _),.eql,true=>vl (.ex (.bool p)) []
    | some (.interface _),.neq,true=>vl (.ex (.bool (!p))) []
    | _,_,_=>bad
  | _,_=>eqR P op t a b own h
theorem equal_nilI{t:TypeId}{ms:_}{v:Value}{b:Bool}(ht:P.underlying t=some (.interface ms))(hv:(b=true/\v=.nilIface)∨(b=false/\∃t u,v=.iface t u)):(Op.equal t v .nilIface).run P w=.ok b w:=by
 have key:∀d,(Op.equalIn (d+1) t v .nilIface).run P w=.ok b w:=λd=>by
  rw[Op.equalIn]
  rcases hv with⟨rfl,rfl⟩ | ⟨rfl,t,u,rfl⟩
  ·simp only[Sem.run_bind,run_underlying ht w,Result.andThen_ok,Sem.run_pure]
  ·simp only[Sem.run_bind,run_underlying ht w,Result.andThen_ok,Sem.run_pure]
 exact key 9999
theorem guard_nilI{op:BinOp}{t:TypeId}{v:Value}{b:Bool}(hk:isK y=true)(hv:(b=true/\v=.nilIface)∨(b=false/\∃t u,v=.iface t u)):(eqGuard op t x y v .nilIface).run P w=.ok () w:=by
 cases y with
 | const c=>rcases hv with⟨rfl,rfl⟩ | ⟨rfl,t,u,rfl⟩<;>cases op<;>simp[eqGuard]
 | _=>cases hk
theorem snd_if [Fz]{op:BinOp}{t t':TypeId}{hi:Hint}{own':Nat->Hl}{r:Res}(H:Hp M F w0 own η w)(h:o.op=.binOp op t x y t')(hx:a.R η (Av F own η) w (ρ x))(hy:b.R η (Av F own η) w (ρ y))(hr:ifR P op t (isK y) a b own' hi=r)(ho:∀k∈r.rd,own k=own' k)(hs:conj r.side):Snd P o ρ M F w0 own η w r:=by
 unfold ifR at hr
 split at hr
 ·rename_i p hp
  have hy:ρ y=.nilIface:=hy
  have hv:=ifcNil_ok hp hx
  split at hr
  ·rename_i ms ht hk
   subst hr
   refine zR H (v:=.bool p) ?_ rfl
   unfold execOp;rw[h];simp only[hy]
   show((do eqGuard .eql t x y (ρ x) .nilIface;binOp .eql t (ρ x) .nilIface)>>=λv=>pure (Next.value v):Sem Next).run P w=_
   rw[show binOp .eql t (ρ x) .nilIface=(do pure (.bool (←Op.equal t (ρ x) .nilIface))) by rcases hv with⟨_,e⟩ | ⟨_,_,_,e⟩<;>rw[e]<;>rfl]
   simp only[Sem.run_bind,guard_nilI hk hv,equal_nilI ht hv,Result.andThen_ok,Sem.run_pure]
  ·rename_i ms ht hk
   subst hr
   refine zR H (v:=.bool (!p)) ?_ rfl
   unfold execOp;rw[h];simp only[hy]
   show((do eqGuard .neq t x y (ρ x) .nilIface;binOp .neq t (ρ x) .nilIface)>>=λv=>pure (Next.value v):Sem Next).run P w=_
   rw[show binOp .neq t (ρ x) .nilIface=(do pure (.bool (!(←Op.equal t (ρ x) .nilIface)))) by rcases hv with⟨_,e⟩ | ⟨_,_,_,e⟩<;>rw[e]<;>rfl]
   simp only[Sem.run_bind,guard_nilI hk hv,equal_nilI ht hv,Result.andThen_ok,Sem.run_pure]
  ·subst hr;exact hs.elim
 ·exact snd_eq H h hx hy hr ho hs
def mkiR (P:Program) (T:TypeId) (a:SV):Res:=match P.underlying T with
  | some (.interface _)=>bad
  | some _ => match a with
    | .ex v=>vl (.ex (.iface T v)) []
    | a=>vl (.ifc T a) []
  | none=>bad
theorem snd_mki [Fz]{T:TypeId}(H:Hp M F w0 own η w)(h:o.op=.makeInterface T x)(hx:a.R η (Av F own η) w (ρ x))(hs:conj (mkiR P T a).side):Snd P o ρ M F w0 own η w (mkiR P T a):=by
 unfold mkiR at hs⊢
 split at hs
 ·exact hs.elim
 ·rename_i ut hn ht
  have hrun:(execOp ρ o).run P w=.ok (.value (.iface T (ρ x))) w:=by
   unfold execOp;rw[h]
   show((Instr.makeInterface T (ρ x))>>=λv=>pure (Next.value v):Sem Next).run P w=_
   unfold Instr.makeInterface
   simp only[Sem.run_bind,run_underlying ht w,Result.andThen_ok]
   cases ut<;>first | exact absurd rfl (hn _) | rfl
  split
  ·rename_i v
   have hx:ρ x=v:=hx
   exact zR H hrun (by rw[hx];rfl)
  ·exact zR H hrun ⟨ρ x,rfl,hx⟩
 ·exact hs.elim
def unR (op:UnOp) (a:SV) (h:Hint):Res:=match op,a with
 | .not,.ex (.bool t)=>vl (.ex (.bool (!t))) []
 | .neg,.ex (.int k p)=>arith k (0-p) h
 | _,_=>bad
theorem snd_un [Fz]{op:UnOp}{t:TypeId}{hi:Hint}(H:Hp M F w0 own η w)(h:o.op=.unOp op t x)(hx:a.R η (Av F own η) w (ρ x))(hs:conj (unR op a hi).side):Snd P o ρ M F w0 own η w (unR op a hi):=by
 unfold unR at hs⊢
 split at hs
 ·rename_i t
  have hx:ρ x=.bool t:=hx
  exact zR H (v:=.bool !t) (by unfold execOp;rw[h];simp only[hx];rfl) rfl
 ·rename_i k p
  have hx:ρ x=.int k p:=hx
  have hr:(execOp ρ o).run P w=.ok (.value (.int k (k.wrap (0-p)))) w:=by unfold execOp;rw[h];simp only[hx];rfl
  cases hi with
  | z r=>exact zR H hr (by show Value.int k _=_;rw[show k.wrap (0-p)=r from hs])
  | _=>exact zR H hr (by show Value.int k _=_;rw[show k.wrap (0-p)=0-p from hs])
 ·exact hs.elim
def convR (P:Program) (src dst:TypeId) (a:SV) (h:Hint):Res:=match a,P.underlying src,P.underlying dst with
 | .ex (.int _ p),some (.int _),some (.int k)=>arith k p h
 | _,_,_=>bad
theorem snd_conv [Fz]{src dst:TypeId}{hi:Hint}(H:Hp M F w0 own η w)(h:o.op=.convert src dst x)(hx:a.R η (Av F own η) w (ρ x))(hs:conj (convR P src dst a hi).side):Snd P o ρ M F w0 own η w (convR P src dst a hi):=by
 unfold convR at hs⊢
 split at hs
 ·rename_i k' p k2 k hS hT
  have hx:ρ x=.int k' p:=hx
  have hr:(execOp ρ o).run P w=.ok (.value (.int k (k.wrap p))) w:=by
   unfold execOp;rw[h]
   simp only[hx,convert,Sem.run_bind,run_underlying hS w,run_underlying hT w,Result.andThen_ok,Conv.intToInt]
   rfl
  cases hi with
  | z r=>exact zR H hr (by show Value.int k _=_;rw[show k.wrap p=r from hs])
  | _=>exact zR H hr (by show Value.int k _=_;rw[show k.wrap p=p from hs])
 ·exact hs.elim
def nthL:SV->Nat->Option SV
 | .cn a _,0=>some a
 | .cn _ b,i+1=>nthL b i
 | _,_=>none
theorem nthL_ok [Fz]{A:Nat->Prop}:∀(l:SV) (i:Nat) (a:SV) (v:Value),nthL l i=some a->l.R η A w v->∃vs:List Value,v=.tuple vs.toArray/\∃u,vs[i]?=some u/\a.R η A w u:=by
 intro l
 induction l with
 | cn a b iha ihb=>
  rintro i c v h ⟨x,xs,rfl,h1,h2⟩
  cases i with
  | zero=>obtain rfl:=Option.some.inj h;exact⟨x::xs,rfl,x,rfl,h1⟩
  | succ i=>
   obtain⟨vs,e,u,hu,hR⟩:=ihb i c _ h h2
   obtain rfl:=tup_inj e
   exact⟨x::xs,rfl,u,hu,hR⟩
 | _=>intro _ _ _ h;cases h
def extR (a:SV) (i:Nat):Res:=match nthL a i with
 | some b=>vl b []
 | none=>bad
theorem snd_ext [Fz]{i:Nat}(H:Hp M F w0 own η w)(h:o.op=.extract x i)(hx:a.R η (Av F own η) w (ρ x))(hs:conj (extR a i).side):Snd P o ρ M F w0 own η w (extR a i):=by
 unfold extR at hs⊢
 split at hs
 ·rename_i b hb
  obtain⟨vs,e,u,hu,hR⟩:=nthL_ok a i b _ hb hx
  exact zR H (xA h e (by simpa using hu) w) hR
 ·exact hs.elim
theorem snd_new [Fz]{k:Nat}{ob:OB}{h:Value}{w':World}{side:List Prop}{rd:List Nat}(H:Hp M F w0 own η w)(hr:(execOp ρ o).run P w=.ok (.value h) w')(g:Grow w w')(hk:own k=.unborn)(hn:∀b,hb h=some b->w.heap.size<=b)
  (hok:∀η' A',Keep η η' (Av F own η) A' w w'->ob.ok η' A' w' h):Snd P o ρ M F w0 own η w ⟨.own k 0,side,[(k,.one ob)],rd⟩:=by
 obtain⟨h1,h2⟩:=H.add g (o:=ob) hk hn λK=>hok _ _ K
 unfold Snd Yld
 rw[hr]
 refine⟨_,h1,h2,?_⟩
 have hone:=OB.hdr (hok _ _ h2)
 exact⟨by unfold yO;rw[if_pos rfl];rfl,hone⟩
def allocR [Fz] (P:Program) (T:TypeId) (nx:Nat):Res:=match P.info? T with
  | some i => match i.zero with
    | some z=>if uT T then bad else⟨.own nx 0,[],[(nx,.one (.var T (.ex z)))],[]⟩
    | none=>bad
  | none=>bad
theorem snd_alloc [Fz]{T:TypeId}{nx:Nat}(H:Hp M F w0 own η w)(h:o.op=.alloc T){r:Res}(hr:allocR P T nx=r)(hk:∀p∈r.new,nx<=p.1->own p.1=.unborn)(hs:conj r.side):Snd P o ρ M F w0 own η w r:=by
 unfold allocR at hr
 split at hr
 ·rename_i i hi
  split at hr
  ·rename_i z hz
   split at hr
   ·(subst hr;exact hs.elim)
   ·rename_i hT
    subst hr
    replace hk:=hk (nx,_) (List.mem_cons_self ..) (Nat.le_refl _)
    refine snd_new (ob:=.var T (.ex z)) (h:=.pointer (some ⟨w.heap.size,0,none⟩)) (w':=w.alloc (.cells z.cells T)) H ?_ ((Grow.refl w).alloc _) hk (λb hb=>by cases hb;exact Nat.le_refl _) λη' A' K=>⟨w.heap.size,z,rfl,Blk.new w T z.cells,rfl,hT,λ_ e=>by cases e⟩
    unfold execOp
    rw[h]
    simp[Instr.alloc,zeroValue,typeInfo,hi,hz,newVar,newRow,Sem.run_bind]
  ·(subst hr;exact hs.elim)
 ·(subst hr;exact hs.elim)
def boxR [Fz] (T:TypeId) (a:SV) (nx:Nat):Res:=if uT T then bad else⟨.own nx 0,[],[(nx,.one (.var T a))],[]⟩
theorem snd_box [Fz]{T:TypeId}{nx:Nat}(H:Hp M F w0 own η w)(h:o.op=.box T x)(hx:a.R η (Av F own η) w (ρ x)){r:Res}(hr:boxR T a nx=r)(hk:∀p∈r.new,nx<=p.1->own p.1=.unborn)(hs:conj r.side):Snd P o ρ M F w0 own η w r:=by
 unfold boxR at hr
 split at hr
 ·(subst hr;exact hs.elim)
 ·rename_i hT
  subst hr
  replace hk:=hk (nx,_) (List.mem_cons_self ..) (Nat.le_refl _)
  refine snd_new (ob:=.var T a) (h:=.pointer (some ⟨w.heap.size,0,none⟩)) (w':=w.alloc (.cells (ρ x).cells T)) H ?_ ((Grow.refl w).alloc _) hk (λb hb=>by cases hb;exact Nat.le_refl _) λη' A' K=>⟨w.heap.size,ρ x,rfl,Blk.new w T _,SV.keep K _ _ hx,hT,λ_ e=>by cases e⟩
  unfold execOp
  rw[h]
  simp[Instr.box,newVar,newRow]
def adr:SV->Option (Nat×Nat×Nat×Nat×Nat)
 | .own k i=>some (k,i,0,0,0)
 | .ref k i s j off=>some (k,i,s,j,off)
 | _=>none
def SV.fine (a:SV):Bool:=a.solid&&a.kind.isSome
def readO (n:Nat) (k:Bool) (ob:Option OB) (s j off:Nat):Option (SV×List Prop):=match ob with
 | some (.var _ a _)=>if s=0/\a.fine=true then(a.part n k off).map (·,[]) else none
 | some (.row _ s' E m)=>if s=s'/\0<s then(if(E j).fine=true then((E j).part n k off).map (·,[j<m]) else none) else none
 | none=>none
theorem adr_ok [Fz]{A:Nat->Prop}{v:Value}{k i s j off:Nat}(h:adr a=some (k,i,s,j,off))(hv:a.R η A w v){ob:OB}{hd:Value}(he:η k i=some hd)(hok:ob.ok η A w hd)(hs:s≠0∨∃T c q,ob=.var T c q):s=0/\(∃T c q,ob=.var T c q)/\(∃b,hb hd=some b/\v=.pointer (some ⟨b,s*j+off,none⟩))∨∃b,hb hd=some b/\v=.pointer (some ⟨b,s*j+off,none⟩):=by
 unfold adr at h
 split at h
 ·simp only[Option.some.injEq,Prod.mk.injEq] at h
  obtain⟨rfl,rfl,rfl,rfl,rfl⟩:=h
  rcases hs with hs | ⟨T,c,q,rfl⟩
  ·exact absurd rfl hs
  ·obtain⟨b,u,rfl,_⟩:=hok
   rw[hv.1] at he
   obtain rfl:=Option.some.inj he
   exact .inr ⟨b,rfl,rfl⟩
 ·simp only[Option.some.injEq,Prod.mk.injEq] at h
  obtain⟨rfl,rfl,rfl,rfl,rfl⟩:=h
  obtain⟨h0,b,e1,e2,e3⟩:=hv
  rw[e1] at he
  obtain rfl:=Option.some.inj he
  exact .inr ⟨b,e2,e3⟩
 ·cases h
theorem fine_ok{a:SV}(h:a.fine=true):a.solid=true/\∃k,a.kind=some k:=by
 unfold SV.fine at h
 simp only[Bool.and_eq_true] at h
 exact⟨h.1,Option.isSome_iff_exists.1 h.2⟩
theorem readO_ok [Fz]{n:Nat}{kk:Bool}{A:Nat->Prop}{v:Value}{k i s j off:Nat}{c:SV}{side:List Prop}{ob:OB}{hd:Value}(ha:adr a=some (k,i,s,j,off))(hr:readO n kk (some ob) s j off=some (c,side))(hv:a.R η A w v)(he:η k i=some hd)(hok:ob.ok η A w hd)(hs:conj side):
  ∃b o u,v=.pointer (some ⟨b,o,none⟩)/\hb hd=some b/\o=s*j+off/\c.R η A w u/\Shp kk n u/\∀t x,u.cells[t]?=some x->w.cell? ⟨b,o+t,none⟩=some x:=by
 cases ob with
 | var T c0 q0=>
  unfold readO at hr
  simp only at hr
  split at hr
  ·rename_i hc
   obtain⟨rfl,hf⟩:=hc
   obtain⟨c',hp,e⟩:=Option.map_eq_some_iff.1 hr
   simp only[Prod.mk.injEq] at e
   obtain⟨rfl,rfl⟩:=e
   obtain⟨f1,k0,f2⟩:=fine_ok hf
   obtain⟨b,hb1,hv1⟩:∃b,hb hd=some b/\v=.pointer (some ⟨b,0*j+off,none⟩):=by
    rcases adr_ok ha hv he hok (.inr ⟨T,c0,_,rfl⟩) with⟨_,_,h⟩ | h<;>exact h
   obtain⟨b',u0,rfl,hB,hR,hT⟩:=hok
   obtain rfl:=Option.some.inj hb1
   obtain⟨u,p1,p2,p3,p4⟩:=part_ok f1 f2 hR hp
   exact⟨b',_,u,hv1,rfl,rfl,p1,p3,λt x hx=>by rw[hB.cell,Nat.zero_mul,Nat.zero_add];exact p4 t x hx⟩
  ·cases hr
 | row T s' E m=>
  unfold readO at hr
  simp only at hr
  split at hr
  ·rename_i hc
   obtain⟨rfl,hpos⟩:=hc
   split at hr
   ·rename_i hf
    obtain⟨c',hp,e⟩:=Option.map_eq_some_iff.1 hr
    simp only[Prod.mk.injEq] at e
    obtain⟨rfl,rfl⟩:=e
    obtain⟨f1,k0,f2⟩:=fine_ok hf
    obtain⟨b,hb1,hv1⟩:∃b,hb hd=some b/\v=.pointer (some ⟨b,s*j+off,none⟩):=by
     rcases adr_ok ha hv he hok (.inl zo) with⟨_,_,h⟩ | h<;>exact h
    obtain⟨A0,cc,rfl,h1,h2,hT,h3⟩:=hok
    rcases h3 with⟨rfl,_,_⟩ | ⟨g,cs,rfl,hB,hcs,hel⟩
    ·cases hb1
    ·obtain rfl:=Option.some.inj hb1
     obtain⟨e0,q1,q2,q3⟩:=hel j hs
     obtain⟨u,p1,p2,p3,p4⟩:=part_ok f1 f2 q2 hp
     exact⟨g,_,u,hv1,rfl,rfl,p1,p3,λt x hx=>by rw[Nat.add_assoc];exact q3 _ _ (p4 t x hx)⟩
   ·cases hr
  ·cases hr
def loadR [Fz] (P:Program) (T:TypeId) (a:SV) (own:Nat->Hl):Res:=match tyNK P T with
  | none=>bad
  | some (n, kk) => match a with
    | .ep c => if c.fine = true then (match c.part n kk 0 with
      | some c'=>vl c' []
      | none=>bad) else bad
    | a => match adr a with
      | none=>bad
      | some (k, i, s, j, off) => match readO n kk ((own k).gs i).1 s j off with
        | some (c,side)=>⟨c,((own k).gs i).2++side,[],[k]⟩
        | none=>bad
theorem snd_load [Fz]{T:TypeId}{own':Nat->Hl}(H:Hp M F w0 own η w)(h:o.op=.load T x)(hx:a.R η (Av F own η) w (ρ x)){r:Res}(hr:loadR P T a own'=r)(ho:∀k∈r.rd,own k=own' k)(hs:conj r.side):Snd P o ρ M F w0 own η w r:=by
 have exec:∀v,(Instr.loadAt T (ρ x)).run P w=.ok v w->(execOp ρ o).run P w=.ok (.value v) w:=λv hv=>by unfold execOp;rw[h];simp only[Sem.run_bind,hv];rfl
 unfold loadR at hr
 split at hr
 ·(subst hr;exact hs.elim)
 ·rename_i n kk hT
  split at hr
  ·rename_i c
   split at hr
   ·rename_i hf
    split at hr
    ·rename_i c' hp
     obtain⟨g,oo,ev,_,_,e0,hR,hc⟩:=hx
     obtain⟨f1,k0,f2⟩:=fine_ok hf
     obtain⟨u,p1,p2,p3,p4⟩:=part_ok f1 f2 hR hp
     subst hr
     refine zR H (exec u ?_) p1
     rw[ev]
     exact load_at hT p3 λt y hy=>hc t y (by have:=p4 t y hy;rwa [Nat.zero_add] at this)
    ·(subst hr;exact hs.elim)
   ·(subst hr;exact hs.elim)
  ·rename_i a _
   split at hr
   ·(subst hr;exact hs.elim)
   ·rename_i k i s j off ha
    split at hr
    ·rename_i c side hr0
     subst hr
     have hk:own k=own' k:=ho k (by simp)
     rw[←hk] at hr0 hs
     obtain⟨hsd,hs⟩:=zD hs
     cases hg:(own k).gs i with
     | mk x sd=>
     rw[hg] at hr0 hsd
     cases x with
     | none=>cases hr0
     | some ob=>
      have hob:=xG hg hsd
      obtain⟨hd,he,hok⟩:=H.ob k i ob hob
      obtain⟨b,oo,u,e1,e2,e3,e4,e5,e6⟩:=readO_ok ha hr0 hx he hok hs
      refine zR H (exec u ?_) e4
      rw[e1]
      exact load_at hT e5 e6
    ·(subst hr;exact hs.elim)
def fieldOf (P:Program) (T:TypeId) (f:Nat):Option (Nat×Nat×Bool):=match P.underlying T with
  | some (.struct fs) => match fs[f]? with
    | some fd => match tyNK P fd.type with
      | some (n,k)=>if n=0 then none else some (fd.offset,n,k)
      | none=>none
    | none=>none
  | _=>none
theorem fieldOf_ok{T:TypeId}{f off n:Nat}{k:Bool}(h:fieldOf P T f=some (off,n,k)):FieldAt P T f off:=by
 unfold fieldOf at h
 split at h
 ·rename_i fs hu
  split at h
  ·rename_i fd hf
   split at h
   ·rename_i n' k' hT
    split at h
    ·cases h
    ·rename_i hz
     simp only[Option.some.injEq,Prod.mk.injEq] at h
     obtain⟨d,i,_,hi,hsz,_⟩:=tyNK_spec hT
     refine fieldAt_of hu hf h.1 ?_
     rw[hi]
     simpa [hsz] using hz
   ·cases h
  ·cases h
 ·cases h
def faddrR [Fz] (P:Program) (T:TypeId) (f:Nat) (a:SV) (own:Nat->Hl):Res:=match fieldOf P T f with
  | none=>bad
  | some (off, n, kk) => match a with
    | .ep c => if c.fine = true then (match c.part n kk off with
      | some c'=>vl (.ep c') []
      | none=>bad) else bad
    | .ref k i s j o=>vl (.ref k i s j (o+off)) []
    | .own k i => match (own k).gs i with
      | (some (.var _ _ _),sd)=>⟨.ref k i 0 0 off,sd,[],[k]⟩
      | _=>bad
    | _=>bad
theorem snd_faddr [Fz]{T:TypeId}{f:Nat}{own':Nat->Hl}(H:Hp M F w0 own η w)(h:o.op=.fieldAddr T x f)(hx:a.R η (Av F own η) w (ρ x)){r:Res}(hr:faddrR P T f a own'=r)(ho:∀k∈r.rd,own k=own' k)(hs:conj r.side):Snd P o ρ M F w0 own η w r:=by
 unfold faddrR at hr
 split at hr
 ·(subst hr;exact hs.elim)
 ·rename_i off n kk hf
  have hF:=fieldOf_ok hf
  have exec:∀b m,ρ x=.pointer (some ⟨b,m,none⟩)->(execOp ρ o).run P w=.ok (.value (.pointer (some ⟨b,m+off,none⟩))) w:=λb m e=>by unfold execOp;rw[h];simp only[e,Sem.run_bind,hF b m w];rfl
  split at hr
  ·rename_i c
   split at hr
   ·rename_i hf
    split at hr
    ·rename_i c' hp
     obtain⟨g,oo,ev,e1,e2,e0,hR,hc⟩:=hx
     obtain⟨f1,k0,f2⟩:=fine_ok hf
     obtain⟨u,p1,p2,p3,p4⟩:=part_ok f1 f2 hR hp
     subst hr
     exact zR H (exec _ _ ev) ⟨g,oo+off,rfl,e1,e2,u,p1,λt y hy=>by rw[Nat.add_assoc];exact hc _ _ (p4 t y hy)⟩
    ·(subst hr;exact hs.elim)
   ·(subst hr;exact hs.elim)
  ·rename_i k i s j oo
   obtain⟨hd,b,e1,e2,e3⟩:=hx
   subst hr
   exact zR H (exec _ _ e3) ⟨hd,b,e1,e2,by rw[Nat.add_assoc]⟩
  ·rename_i k i
   split at hr
   ·rename_i T' c sd hob
    subst hr
    have hk:own k=own' k:=ho k (by simp)
    rw[←hk] at hob
    have hob:=xG hob hs
    obtain⟨hd,he,hok⟩:=H.ob k i _ hob
    have hx1:=hx.1
    obtain⟨b,u,rfl,_⟩:=hok
    rw[hx1] at he
    exact zR H (exec b 0 (Option.some.inj he)) ⟨_,b,hx1.trans he,rfl,by rw[Nat.mul_zero]⟩
   ·(subst hr;exact hs.elim)
  ·(subst hr;exact hs.elim)
def fieldR [Fz] (P:Program) (T:TypeId) (f:Nat) (a:SV):Res:=match fieldOf P T f with
  | none=>bad
  | some (off, n, kk) => if a.solid = true /\ a.kind = some true then (match a.part n kk off with
    | some c=>vl c []
    | none=>bad) else bad
theorem part_run{T:TypeId}{n off:Nat}{k:Bool}{cs:Array Value}{u:Value}(hT:tyNK P T=some (n,k))(hs:Shp k n u)(hc:∀j z,u.cells[j]?=some z->cs[off+j]?=some z):(part T cs off).run P w=.ok u w:=by
 obtain⟨d,i,hu,hi,hz,hd⟩:=tyNK_spec hT
 have hagg:(isAgg T).run P w=.ok k w:=by
  unfold isAgg
  rw[Sem.run_bind,run_underlying hu w]
  cases d<;>simp_all
 unfold part
 rw[Sem.run_bind,hagg]
 cases k with
 | true=>
  obtain⟨us,rfl⟩:=hs.2.2.1 rfl
  have h1:us.size=n:=hs.1
  have e:cs.extract off (off+n)=us:=by
   refine Array.ext_getElem? λj=>?_
   by_cases hj:j<us.size
   ·have:=hc j us[j] (Array.getElem?_eq_getElem hj)
    have hl:=(Array.getElem?_eq_some_iff.1 this).1
    rw[Array.getElem?_extract,Array.getElem?_eq_getElem hj]
    rw[if_pos zo]
    exact this
   ·rw[Array.getElem?_eq_none (xs:=us) zo]
    refine Array.getElem?_eq_none ?_
    rw[Array.size_extract];omega
  simp[Sem.run_bind,sizeOf,typeInfo,hi,hz,e]
 | false=>
  have h1:=hs.2.2.2 rfl
  have:=hc 0 u (by rw[xC h1];rfl)
  rw[Nat.add_zero] at this
  simp[this]
theorem snd_field [Fz]{T:TypeId}{f:Nat}(H:Hp M F w0 own η w)(h:o.op=.field T x f)(hx:a.R η (Av F own η) w (ρ x)){r:Res}(hr:fieldR P T f a=r)(hs:conj r.side):Snd P o ρ M F w0 own η w r:=by
 unfold fieldR at hr
 split at hr
 ·(subst hr;exact hs.elim)
 ·rename_i off n kk hf
  split at hr
  ·rename_i hc
   split at hr
   ·rename_i c hp
    subst hr
    obtain⟨u,p1,p2,p3,p4⟩:=part_ok hc.1 hc.2 hx hp
    obtain⟨cs,e⟩:=((SV.shape a _ hc.1 hx).1 true hc.2).2.2.1 rfl
    refine zR H (v:=u) ?_ p1
    rw[e] at p4
    unfold fieldOf at hf
    split at hf
    ·rename_i fs hu
     split at hf
     ·rename_i fd hfd
      split at hf
      ·rename_i n' k' hT
       split at hf
       ·cases hf
       ·simp only[Option.some.injEq,Prod.mk.injEq] at hf
        obtain⟨rfl,rfl,rfl⟩:=hf
        unfold execOp
        rw[h]
        simp only[Instr.field,Sem.run_bind,run_underlying hu w,Result.andThen_ok,hfd,e,asAgg]
        have hp:=part_run (P:=P) (w:=w) (cs:=cs) hT p3 p4
        show((Sem.run P (part fd.type cs fd.offset) w).andThen λa w'=>Sem.run P (pure (Next.value a)) w')=_
        rw[hp];rfl
      ·cases hf
     ·cases hf
    ·cases hf
   ·(subst hr;exact hs.elim)
  ·(subst hr;exact hs.elim)
def elemOf (P:Program) (T:TypeId):Option (TypeId×Nat):=match P.underlying T with
 | some (.slice e)=>(P.info? e).map λi=>(e,i.size)
 | _=>none
theorem xS{T e:TypeId}{s:Nat}(h:elemOf P T=some (e,s)):P.underlying T=some (.slice e)/\∃i,P.info? e=some i/\i.size=s:=by
 unfold elemOf at h
 split at h
 ·rename_i e' hu
  obtain⟨i,hi,e1⟩:=Option.map_eq_some_iff.1 h
  simp only[Prod.mk.injEq] at e1
  obtain⟨rfl,rfl⟩:=e1
  exact⟨hu,i,hi,rfl⟩
 ·cases h
def idxR [Fz] (P:Program) (T:TypeId) (a b:SV) (own:Nat->Hl) (h:Hint):Res:=match elemOf P T,h,b with
  | some (_, s), .k j, .ex (.int _ z) => match a with
    | .sl s' E n=>if s=s' then vl (.ep (E j)) [z=((j:Nat):Int),j<n] else bad
    | .own k i => match (own k).gs i with
      | (some (.row _ s' _ n),sd)=>if s=s' then⟨.ref k i s j 0,[z=((j:Nat):Int),j<n]++sd,[],[k]⟩ else bad
      | _=>bad
    | _=>bad
  | _,_,_=>bad
theorem run_index [Fz]{T e:TypeId}{s j n c g oo:Nat}{k:IntKind}{i0:TypeInfo}(h:o.op=.indexAddr T x y)(hu:P.underlying T=some (.slice e))(hi:P.info? e=some i0)(hz:i0.size=s)(hx:ρ x=.slice (some ⟨g,oo,none⟩) n c)(hy:ρ y=.int k ((j:Nat):Int))(hj:j<n):
  (execOp ρ o).run P w=.ok (.value (.pointer (some ⟨g,oo+s*j,none⟩))) w:=by
 unfold execOp
 rw[h]
 have h1:(0:Int)<=(j:Int)/\(j:Int)<(n:Int):=by omega
 simp[Instr.indexAt,hx,hy,asIntOf,run_underlying hu,sizeOf,typeInfo,hi,hz,hj,add_plain,Nat.mul_comm j s]
theorem snd_idx [Fz]{T:TypeId}{hi:Hint}{own':Nat->Hl}(H:Hp M F w0 own η w)(h:o.op=.indexAddr T x y)(hx:a.R η (Av F own η) w (ρ x))(hy:b.R η (Av F own η) w (ρ y)){r:Res}(hr:idxR P T a b own' hi=r)(ho:∀k∈r.rd,own k=own' k)(hs:conj r.side):Snd P o ρ M F w0 own η w r:=by
 unfold idxR at hr
 split at hr
 ·rename_i e s j kk z hT
  obtain⟨hu,i0,hi0,hz0⟩:=xS hT
  have hy:ρ y=.int kk z:=hy
  split at hr
  ·rename_i s' E n
   split at hr
   ·rename_i e1
    subst e1
    subst hr
    obtain⟨rfl,hj⟩:=hs
    obtain⟨A0,c,ev,h1,h2,h3,k⟩:=hx
    obtain⟨g,oo,rfl,q1,q2,e0,q3,q4,q5⟩:=k j hj
    exact zR H (run_index h hu hi0 hz0 ev hy hj) ⟨g,_,rfl,q1,q2,e0,q4,q5⟩
   ·(subst hr;exact hs.elim)
  ·rename_i k i
   split at hr
   ·rename_i T' s' E n sd hob
    split at hr
    ·rename_i e1
     subst e1
     subst hr
     obtain⟨hs,hsd⟩:=zD hs
     obtain⟨rfl,hj⟩:=hs
     have hj:j<n:=hj
     have hk:own k=own' k:=ho k (by simp)
     rw[←hk] at hob
     have hob:=xG hob hsd
     obtain⟨hd,he,hok⟩:=H.ob k i _ hob
     have hx1:=hx.1
     obtain⟨A0,c,rfl,h1,h2,hT',h3⟩:=hok
     rw[hx1] at he
     have ev:=Option.some.inj he
     rcases h3 with⟨rfl,rfl,_⟩ | ⟨g,cs,rfl,hB,hcs,hel⟩
     ·omega
     ·refine zR H (run_index h hu hi0 hz0 ev hy hj) ⟨_,g,hx1.trans he,rfl,?_⟩
      rw[Nat.zero_add,Nat.add_zero]
    ·(subst hr;exact hs.elim)
   ·(subst hr;exact hs.elim)
  ·(subst hr;exact hs.elim)
 ·(subst hr;exact hs.elim)
def arrOf (P:Program) (T:TypeId):Option (Nat×Nat×Bool):=match P.underlying T with
 | some (.array n e)=>(tyNK P e).map λq=>(n,q.1,q.2)
 | _=>none
theorem arrOf_ok{T:TypeId}{n s:Nat}{k:Bool}(h:arrOf P T=some (n,s,k)):∃e i,P.underlying T=some (.array n e)/\P.info? e=some i/\i.size=s:=by
 unfold arrOf at h
 split at h
 ·rename_i n' e' hu
  obtain⟨⟨s',k'⟩,hq,e1⟩:=Option.map_eq_some_iff.1 h
  simp only[Prod.mk.injEq] at e1
  obtain⟨rfl,rfl,rfl⟩:=e1
  obtain⟨d,i,_,hi,hz,_⟩:=tyNK_spec hq
  exact⟨e',i,hu,hi,hz⟩
 ·cases h
def partLe [Fz] (c:SV) (s:Nat) (kk:Bool) (E:Nat->SV) (i:Nat):List Prop:=match c.part s kk (s*i) with
 | some x=>SV.le x (E i)
 | none=>[False]
def idxA [Fz] (P:Program) (T:TypeId) (a b:SV) (h:Hint):Res:=match arrOf P T,h,b with
  | some (n, s, kk), .row j E, .ex (.int _ z) => match a with
    | .ep c=>if c.fine=true then vl (.ep (E j)) ([z=((j:Nat):Int),j<n]++(List.range n).flatMap (partLe c s kk E)) else bad
    | _=>bad
  | _,_,_=>bad
theorem conj_flatMap{α:Type}{f:α->List Prop}{a:α}:∀{l:List α},conj (l.flatMap f)->a∈l->conj (f a)
 | [],_,h=>by cases h
 | b::l,hs,h=>by
  rw[List.flatMap_cons] at hs
  obtain⟨h1,h2⟩:=zD hs
  rcases List.mem_cons.1 h with e | e
  ·rw[e];exact h1
  ·exact conj_flatMap h2 e
theorem run_indexA [Fz]{T e:TypeId}{s j n g oo:Nat}{k:IntKind}{i0:TypeInfo}(h:o.op=.indexAddr T x y)(hu:P.underlying T=some (.array n e))(hi:P.info? e=some i0)(hz:i0.size=s)(hx:ρ x=.pointer (some ⟨g,oo,none⟩))(hy:ρ y=.int k ((j:Nat):Int))(hj:j<n):
  (execOp ρ o).run P w=.ok (.value (.pointer (some ⟨g,oo+s*j,none⟩))) w:=by
 unfold execOp
 rw[h]
 have h1:(0:Int)<=(j:Int)/\(j:Int)<(n:Int):=by omega
 simp[Instr.indexAt,Instr.sureAddr,hx,hy,asIntOf,run_underlying hu,sizeOf,typeInfo,hi,hz,hj,add_plain,Nat.mul_comm j s]
theorem snd_idxA [Fz]{T:TypeId}{hi:Hint}(H:Hp M F w0 own η w)(h:o.op=.indexAddr T x y)(hx:a.R η (Av F own η) w (ρ x))(hy:b.R η (Av F own η) w (ρ y)){r:Res}(hr:idxA P T a b hi=r)(hs:conj r.side):Snd P o ρ M F w0 own η w r:=by
 unfold idxA at hr
 split at hr
 ·rename_i n s kk j E ki z hT
  obtain⟨e,i0,hu,hi0,hz0⟩:=arrOf_ok hT
  have hy:ρ y=.int ki z:=hy
  split at hr
  ·rename_i c
   split at hr
   ·rename_i hf
    subst hr
    obtain⟨h1,h2⟩:=zD hs
    obtain⟨rfl,hj⟩:=h1
    have hj:j<n:=hj
    have h3:conj (partLe c s kk E j):=conj_flatMap h2 (List.mem_range.2 hj)
    unfold partLe at h3
    split at h3
    ·rename_i x' hp
     obtain⟨g,oo,ev,e1,e2,e0,hR,hc⟩:=hx
     obtain⟨f1,k0,f2⟩:=fine_ok hf
     obtain⟨u,p1,p2,p3,p4⟩:=part_ok f1 f2 hR hp
     exact zR H (run_indexA h hu hi0 hz0 ev hy hj) ⟨g,oo+s*j,rfl,e1,e2,u,SV.le_ok _ _ _ h3 p1,λt y hy=>by rw[Nat.add_assoc];exact hc _ _ (p4 t y hy)⟩
    ·exact h3.elim
   ·(subst hr;exact hs.elim)
  ·(subst hr;exact hs.elim)
 ·(subst hr;exact hs.elim)
def idxB [Fz] (P:Program) (T:TypeId) (a b:SV) (own:Nat->Hl) (h:Hint):Res:=match elemOf P T with
 | some _=>idxR P T a b own h
 | none=>idxA P T a b h
theorem snd_idxB [Fz]{T:TypeId}{hi:Hint}{own':Nat->Hl}(H:Hp M F w0 own η w)(h:o.op=.indexAddr T x y)(hx:a.R η (Av F own η) w (ρ x))(hy:b.R η (Av F own η) w (ρ y)){r:Res}(hr:idxB P T a b own' hi=r)(ho:∀k∈r.rd,own k=own' k)(hs:conj r.side):Snd P o ρ M F w0 own η w r:=by
 unfold idxB at hr
 split at hr
 ·exact snd_idx H h hx hy hr ho hs
 ·exact snd_idxA H h hx hy hr hs
def lenR [Fz] (P:Program) (T:TypeId) (a:SV) (own:Nat->Hl):Res:=match elemOf P T with
  | none=>bad
  | some _ => match a with
    | .sl _ _ n=>vl (.ex (.int .i64 ((n:Nat):Int))) []
    | .ex (.slice _ n _)=>vl (.ex (.int .i64 ((n:Nat):Int))) []
    | .own k i => match (own k).gs i with
      | (some (.row _ _ _ n),sd)=>⟨.ex (.int .i64 ((n:Nat):Int)),sd,[],[k]⟩
      | _=>bad
    | _=>bad
theorem snd_len [Fz]{T:TypeId}{own':Nat->Hl}(H:Hp M F w0 own η w)(h:o.op=.call {callee:=.builtin .len,args:=#[x],argTypes:=#[T]})(hx:a.R η (Av F own η) w (ρ x)){r:Res}(hr:lenR P T a own'=r)(ho:∀k∈r.rd,own k=own' k)(hs:conj r.side):Snd P o ρ M F w0 own η w r:=by
 unfold lenR at hr
 split at hr
 ·(subst hr;exact hs.elim)
 ·rename_i e hT
  obtain⟨hu,_⟩:=xS hT
  have exec:∀A n c,ρ x=.slice A n c->(execOp ρ o).run P w=.ok (.value (.int .i64 ((n:Nat):Int))) w:=λA n c e=>by unfold execOp;rw[h];simp[resolve,invoke,builtin,e,Builtin.len_,run_underlying hu,goInt]
  split at hr
  ·subst hr
   obtain⟨A0,c,ev,_⟩:=hx
   exact zR H (exec _ _ _ ev) rfl
  ·subst hr
   exact zR H (exec _ _ _ hx) rfl
  ·rename_i k i
   split at hr
   ·rename_i T' s' E n sd hob
    subst hr
    have hk:own k=own' k:=ho k (by simp)
    rw[←hk] at hob
    have hob:=xG hob hs
    obtain⟨hd,he,hok⟩:=H.ob k i _ hob
    have hx1:=hx.1
    obtain⟨A0,c,rfl,_⟩:=hok
    rw[hx1] at he
    exact zR H (exec _ _ _ (Option.some.inj he)) rfl
   ·(subst hr;exact hs.elim)
  ·(subst hr;exact hs.elim)
end
open Go.RowKit
theorem zc_len(c:Array Value):∀n,(Builtin.zeroCells c n).size=n*c.size:=λn=>by rw[size_zeroCells]
theorem zc_nil{c:Array Value}{n:Nat}(h:n*c.size=0):Builtin.zeroCells c n=#[]:=Array.eq_empty_of_size_eq_zero (by rw[zc_len];exact h)
theorem wrap_n{n:Nat}(hn:n<=68719476736):IntKind.i64.wrap ((n:Nat):Int)=((n:Nat):Int):=by rw[IntKind.wrap_i64];omega
theorem run_append_z_room{P:Program}{w:World}{n:Nat}(t tx ty e:TypeId)(i:TypeInfo)(z:Value)(ht:P.underlying t=some (.slice e))(hk:P.underlying tx=some (.int .i64))(hi:P.info? e=some i)(hz:i.zero=some z)(hzs:z.cells.size=i.size)(h1:∀u∈(Builtin.zeroCells z.cells n).toList,u.oneCell'=true)
  (b off sLen sCap:Nat)(hn:n<=68719476736)(hb:i.bytes<=128)
  (hroom:sLen+n<=sCap)(hc:∀j,j<n*i.size->(w.cell? ⟨b,off+sLen*i.size+j,none⟩).isSome=true)(hf:∀j,j<n*i.size->w.frozen? ⟨b,off+sLen*i.size+j,none⟩=false):
  (Builtin.append_ #[t,tx] ty #[.slice (some ⟨b,off,none⟩) sLen sCap,.int .i64 ((n:Nat):Int)]).run P w=.ok (.slice (some ⟨b,off,none⟩) (sLen+n) sCap) (w.setCells b (off+sLen*i.size) (Builtin.zeroCells z.cells n).toList):=by
 have hl:(Builtin.zeroCells z.cells n).toList.length=n*i.size:=by rw[Array.length_toList,zc_len,hzs]
 have hst:=run_storeCells_cells (P:=P) b (off+sLen*i.size) (Builtin.zeroCells z.cells n).toList 0 w (by simpa [hl] using hc) (by simpa [hl] using hf) h1
 simp only[Nat.add_zero] at hst
 have hw:=wrap_n hn
 have ha:∀w':World,(asIntOf (.int .i64 ((n:Nat):Int))).run P w'=.ok (.i64,((n:Nat):Int)) w':=λ_=>rfl
 have hn0:¬(((n:Nat):Int)<0):=by omega
 have h48:¬(281474976710656<((n:Nat):Int)*(i.bytes:Int)):=by
  have:=Int.mul_le_mul (show((n:Nat):Int)<=68719476736 by omega) (show(i.bytes:Int)<=128 by omega) zo zo
  omega
 by_cases h0:n*i.size=0
 ·have e0:=zc_nil (c:=z.cells) (n:=n) (by rw[hzs];exact h0)
  rw[e0] at hst⊢
  simp[Builtin.append_,run_underlying ht,run_underlying hk,sizeOf,typeInfo,hi,hroom,Addr.add_lit,asInt,ha,hw,hn0,h48,h0,hst]
 ·simp[Builtin.append_,run_underlying ht,run_underlying hk,sizeOf,typeInfo,zeroValue,hi,hz,hroom,Addr.add_lit,asInt,ha,hw,hn0,h48,h0,hst]
theorem run_append_z_grow{P:Program}{w:World}(t tx ty e:TypeId)(i:TypeInfo)(z:Value)(ht:P.underlying t=some (.slice e))(hk:P.underlying tx=some (.int .i64))(hi:P.info? e=some i)(hz:i.zero=some z)(hzs:z.cells.size=i.size)(base:Option Addr)(sLen sCap n:Nat)(olds:List Value)
  (hold:(Builtin.firstCells i.size sLen (.slice base sLen sCap)).run P w.drew=.ok olds.toArray w.drew)(hn:n<=68719476736)(hb:i.bytes<=128)
  (hg:sCap<sLen+n)(h63:((sLen+n:Nat):Int)<=9223372036854775807)(hfit:Builtin.nextslicecap (sLen+n) sCap*i.bytes<=281474976710656):
  (Builtin.append_ #[t, tx] ty #[.slice base sLen sCap, .int .i64 ((n : Nat) : Int)]).run P w =
   .ok (.slice (some ⟨w.heap.size,0,none⟩) (sLen+n) (grownCap w (sLen+n) sCap e))
    (w.drew.alloc (.cells ((olds++(Builtin.zeroCells z.cells n).toList).toArray++Builtin.zeroCells z.cells (grownCap w (sLen+n) sCap e-(sLen+n))) e)):=by
 have hnr:¬(sLen+n<=sCap):=by omega
 have h63':¬(9223372036854775807<((sLen:Int)+(n:Int))):=by omega
 have h48':¬(281474976710656<Builtin.nextslicecap (sLen+n) sCap*i.bytes):=by omega
 have hw:=wrap_n hn
 have ha:∀w':World,(asIntOf (.int .i64 ((n:Nat):Int))).run P w'=.ok (.i64,((n:Nat):Int)) w':=λ_=>rfl
 have hn0:¬(((n:Nat):Int)<0):=by omega
 have hmx:max ((n:Nat):Int) 0=((n:Nat):Int):=by omega
 have h48:¬(281474976710656<((n:Nat):Int)*(i.bytes:Int)):=by
  have:=Int.mul_le_mul (show((n:Nat):Int)<=68719476736 by omega) (show(i.bytes:Int)<=128 by omega) zo zo
  omega
 by_cases h0:n*i.size=0
 ·have e0:=zc_nil (c:=z.cells) (n:=n) (by rw[hzs];exact h0)
  rw[e0]
  simp[Builtin.append_,run_underlying ht,run_underlying hk,sizeOf,typeInfo,zeroValue,hi,hz,asInt,ha,hw,hn0,hmx,h48,h0,hnr,h63',h48',Question.forced,hold,newRow,grownCap]
 ·simp[Builtin.append_,run_underlying ht,run_underlying hk,sizeOf,typeInfo,zeroValue,hi,hz,asInt,ha,hw,hn0,hmx,h48,h0,hnr,h63',h48',Question.forced,hold,newRow,grownCap]
  congr 2
  apply Array.ext'
  simp[List.append_assoc]
theorem zero_cells{z:Array Value}{s n i j:Nat}(hz:z.size=s)(hi:i<n)(hj:j<s):(Builtin.zeroCells z n)[s*i+j]?=z[j]?:=by
 have h:s*i+j<n*s:=by
  have:=Nat.mul_le_mul_left s (show i+1<=n from hi)
  rw[Nat.mul_succ,Nat.mul_comm s n] at this
  omega
 have hm:(s*i+j)%s=j:=by rw[Nat.mul_add_mod];exact Nat.mod_eq_of_lt hj
 rw[Array.getElem?_eq_getElem (by rw[size_zeroCells,hz];exact h),Array.getElem?_eq_getElem (show j<z.size by omega)]
 simp[Builtin.zeroCells,hz,hm]
 rw[getElem!_pos z j zo]
def SrcA (P:Program) (i:TypeInfo) (zv:Value) (T':TypeId) (x:Value) (m:Nat) (news:List Value) (w:World):Prop:=
 Src P i.size T' x m news w∨(P.underlying T'=some (.int .i64)/\x=.int .i64 ((m:Nat):Int)/\news=(Builtin.zeroCells zv.cells m).toList/\(∀u∈news,u.oneCell'=true)/\m<=68719476736/\zv.cells.size=i.size)
section
variable {P:Program} {w:World} {i:TypeInfo} {zv v:Value} {T T' e:TypeId} {m:Nat} {news:List Value}
theorem SrcA.newsLen(h:SrcA P i zv T' v m news w):news.length=m*i.size:=by
 rcases h with h | ⟨_,_,rfl,_,_,h⟩
 ·exact h.newsLen
 ·rw[Array.length_toList,size_zeroCells,h]
theorem SrcA.nilled(h:SrcA P i zv T' v 0 news w)(ty:TypeId)(hu:P.underlying T=some (.slice e))(hi:P.info? e=some i):(Builtin.append_ #[T,T'] ty #[.slice none 0 0,v]).run P w=.ok (.slice none 0 0) w:=by
 rcases h with h | ⟨hk,rfl,_,_,_,_⟩
 ·have h1:=h.len w
  have h2:=h.cells
  rcases h.kind with⟨e',hk⟩ | hk<;>simp[Builtin.append_,run_underlying hu,run_underlying hk,sizeOf,typeInfo,hi,h1,h2]
 ·have ha:∀w':World,(asIntOf (.int .i64 0)).run P w'=.ok (.i64,0) w':=λ_=>rfl
  have hw:IntKind.i64.wrap 0=0:=by decide
  simp[Builtin.append_,run_underlying hu,run_underlying hk,sizeOf,typeInfo,hi,asInt,ha,hw]
theorem run_append_room_A(h:SrcA P i zv T' v m news w)(ty:TypeId)(hu:P.underlying T=some (.slice e))(hi:P.info? e=some i)(hz:i.zero=some zv)(hb:i.bytes<=128)(b off sLen sCap:Nat)
  (hroom:sLen+m<=sCap)(hc:∀j,j<news.length->(w.cell? ⟨b,off+sLen*i.size+j,none⟩).isSome=true)(hf:∀j,j<news.length->w.frozen? ⟨b,off+sLen*i.size+j,none⟩=false):
  (Builtin.append_ #[T,T'] ty #[.slice (some ⟨b,off,none⟩) sLen sCap,v]).run P w=.ok (.slice (some ⟨b,off,none⟩) (sLen+m) sCap) (w.setCells b (off+sLen*i.size) news):=by
 have hl:=h.newsLen
 rcases h with h | ⟨hk,rfl,rfl,h1,hm,hzs⟩
 ·exact run_append_room_src (P:=P) w T T' ty e i hu hi b off sLen sCap v m news h hroom hc hf
 ·rw[hl] at hc hf
  exact run_append_z_room T T' ty e i zv hu hk hi hz hzs h1 b off sLen sCap hm hb hroom hc hf
theorem run_append_grow_A(h:SrcA P i zv T' v m news w)(ty:TypeId)(hu:P.underlying T=some (.slice e))(hi:P.info? e=some i)(hz:i.zero=some zv)(hb:i.bytes<=128)(base:Option Addr)(sLen sCap:Nat)(olds:List Value)
  (hold:(Builtin.firstCells i.size sLen (.slice base sLen sCap)).run P w.drew=.ok olds.toArray w.drew)
  (hg:sCap<sLen+m)(h63:((sLen+m:Nat):Int)<=9223372036854775807)(hfit:Builtin.nextslicecap (sLen+m) sCap*i.bytes<=281474976710656):
  (Builtin.append_ #[T, T'] ty #[.slice base sLen sCap, v]).run P w =
   .ok (.slice (some ⟨w.heap.size,0,none⟩) (sLen+m) (grownCap w (sLen+m) sCap e))
    (w.drew.alloc (.cells ((olds++news).toArray++Builtin.zeroCells zv.cells (grownCap w (sLen+m) sCap e-(sLen+m))) e)):=by
 rcases h with h | ⟨hk,rfl,rfl,h1,hm,hzs⟩
 ·exact run_append_grow_src (P:=P) w T T' ty e i zv hu hi hz base sLen sCap olds hold v m news h hg h63 hfit
 ·exact run_append_z_grow T T' ty e i zv hu hk hi hz hzs base sLen sCap m olds hold hm hb hg h63 hfit
end
section
variable {P:Program} {o:Oper} {ρ:Operand->Value} {M F:Nat->Prop} {w0 w:World} {own:Nat->Hl} {η:Eta} {x y:Operand} {a b:SV}
theorem made_cells{z:Array Value}{s n i j:Nat}(hz:z.size=s)(hi:i<n)(hj:j<s):(madeCells z (n*s))[s*i+j]?=z[j]?:=by
 have h1:s*i+j<n*s:=by
  have:=Nat.mul_le_mul_left s (show i+1<=n from hi)
  rw[Nat.mul_succ] at this
  rw[Nat.mul_comm n s];omega
 have h2:(s*i+j)%s=j:=by rw[Nat.mul_add_mod];exact Nat.mod_eq_of_lt hj
 simp only[madeCells,Array.getElem?_map,Array.getElem?_range,h1,if_true,Option.map_some]
 rw[hz,h2,Array.getElem?_eq_getElem zo,getElem!_pos z j zo]
def makeR [Fz] (P:Program) (T:TypeId) (a b:SV) (nx:Nat) (h:Hint):Res:=match elemOf P T,h,a,b with
  | some (e, s), .row n E, .ex (.int _ z), .ex (.int _ z') => match P.info? e with
    | some i => match i.zero with
      | some zv=>if uT e∨zv.cells.size≠s∨zv.cells.all (·.oneCell')=false∨128<i.bytes then bad else⟨.own nx 0,[z=((n:Nat):Int),z'=((n:Nat):Int),n<=68719476736,∀j,j<n->conj (SV.le (.ex zv) (E j))],[(nx,.one (.row e s E n))],[]⟩
      | none=>bad
    | none=>bad
  | _,_,_,_=>bad
theorem snd_make [Fz]{T:TypeId}{nx:Nat}{hi:Hint}(H:Hp M F w0 own η w)(h:o.op=.makeSlice T x y)(hx:a.R η (Av F own η) w (ρ x))(hy:b.R η (Av F own η) w (ρ y)){r:Res}(hr:makeR P T a b nx hi=r)(hk:∀p∈r.new,nx<=p.1->own p.1=.unborn)(hs:conj r.side):Snd P o ρ M F w0 own η w r:=by
 unfold makeR at hr
 split at hr
 ·rename_i e s n E k1 z k2 z' hT
  obtain⟨hu,i0,hi0,hz0⟩:=xS hT
  split at hr
  ·rename_i i hi1
   rw[hi0] at hi1
   obtain rfl:=Option.some.inj hi1
   split at hr
   ·rename_i zv hzv
    split at hr
    ·subst hr;exact hs.elim
    ·rename_i hc
     subst hr
     replace hk:=hk (nx,_) (List.mem_cons_self ..) (Nat.le_refl _)
     simp only[not_or,ne_eq,Decidable.not_not,Bool.not_eq_false,Nat.not_lt] at hc
     obtain⟨c1,c2,c3,c4⟩:=hc
     obtain⟨rfl,rfl,hn,hE⟩:=hs
     have hx:ρ x=.int k1 n:=hx
     have hy:ρ y=.int k2 n:=hy
     have hbt:(n:Int)*128<=68719476736*128:=by omega
     have hbt2:(i0.bytes:Int)*(n:Int)<=281474976710656:=by
      have h1:(i0.bytes:Int)*(n:Int)<=128*(n:Int):=Int.mul_le_mul_of_nonneg_right zo zo
      omega
     have hrun:=run_make (P:=P) w T e i0 _ hu hi0 hzv k1 k2 (n:Int) (n:Int) zo (Int.le_refl _) hbt2 zo
     rw[Int.toNat_natCast,hz0] at hrun
     refine snd_new (ob:=.row e s E n) (h:=.slice (some ⟨w.heap.size,0,none⟩) n n) (w':=w.alloc (.cells (madeCells zv.cells (n*s)) e)) H ?_ ((Grow.refl w).alloc _) hk (λb hb=>by cases hb;exact Nat.le_refl _) λη' A' K=>?_
     ·unfold execOp
      rw[h]
      simp only[hx,hy,Sem.run_bind,hrun,Result.andThen_ok]
      rfl
     ·have hb:=Blk.new w e (madeCells zv.cells (n*s))
      refine⟨_,n,rfl,Nat.le_refl _,by unfold maxLen;omega,c1,.inr ⟨w.heap.size,_,rfl,hb,by rw[size_madeCells,Nat.mul_comm],λi hi=>⟨zv,⟨c2,λu hu=>Array.all_eq_true_iff_forall_mem.1 c3 u (by simpa using hu)⟩,SV.le_ok _ _ _ (hE i hi) rfl,λj u hj=>?_⟩⟩⟩
      rw[hb.cell,made_cells c2 hi (by rw[←c2];exact(Array.getElem?_eq_some_iff.1 hj).1)]
      exact hj
   ·subst hr;exact hs.elim
  ·subst hr;exact hs.elim
 ·subst hr;exact hs.elim
def lit0R [Fz] (P:Program) (T:TypeId) (nx:Nat):Res:=match elemOf P T with
 | some (e,s)=>if uT e then bad else⟨.own nx 0,[],[(nx,.one (.row e s (λ_=>.any) 0))],[]⟩
 | none=>bad
theorem snd_lit0 [Fz]{T:TypeId}{nx:Nat}{ps:Array (Nat×Operand)}(H:Hp M F w0 own η w)(h:o.op=.buildSlice T 0 ps)(hp:ps=#[]){r:Res}(hr:lit0R P T nx=r)(hk:∀p∈r.new,nx<=p.1->own p.1=.unborn)(hs:conj r.side):Snd P o ρ M F w0 own η w r:=by
 unfold lit0R at hr
 split at hr
 ·rename_i e s hT
  obtain⟨hu,i0,hi0,hz0⟩:=xS hT
  split at hr
  ·subst hr;exact hs.elim
  ·rename_i hU
   subst hr
   replace hk:=hk (nx,_) (List.mem_cons_self ..) (Nat.le_refl _)
   subst hp
   have hrun:(Instr.buildSlice T 0 #[]).run P w=.ok (.slice (some ⟨w.heap.size,0,none⟩) 0 0) (w.alloc (.cells #[] e)):=by
    simp[Instr.buildSlice,run_underlying hu,sizeOf,typeInfo,hi0,newRow,Instr.fill]
    rw[show Array.range 0=#[] from by decide]
    simp
   refine snd_new (ob:=.row e s (λ_=>.any) 0) (h:=.slice (some ⟨w.heap.size,0,none⟩) 0 0) (w':=w.alloc (.cells #[] e)) H ?_ ((Grow.refl w).alloc _) hk (λb hb=>by cases hb;exact Nat.le_refl _) λη' A' K=>?_
   ·unfold execOp
    rw[h]
    have e0:(#[]:Array (Nat×Operand)).map (λ(i,x)=>(i,ρ x))=#[]:=by simp
    simp only[e0,Sem.run_bind,hrun,Result.andThen_ok]
    rfl
   ·exact⟨_,0,rfl,Nat.le_refl _,Nat.zero_le _,hU,.inr ⟨w.heap.size,#[],rfl,Blk.new w e #[],rfl,λi hi=>absurd hi (Nat.not_lt_zero i)⟩⟩
 ·subst hr;exact hs.elim
def srcOf [Fz] (s:Nat) (a:SV) (own:Nat->Hl):Option ((Nat->SV)×Nat×List Nat×List Prop):=match a with
  | .sl s' E n=>if s=s' then some (E,n,[],[]) else none
  | .ex (.slice none 0 0)=>some (λ_=>.any,0,[],[])
  | .ex (.slice (some _) 0 _)=>some (λ_=>.any,0,[],[])
  | .own k i => match (own k).gs i with
    | (some (.row _ s' E n),sd)=>if s=s' then some (E,n,[k],sd) else none
    | _=>none
  | _=>none
theorem cells_list{s n:Nat}{g oo:Nat}{Q:Nat->Value->Prop}(hel:∀i,i<n->∃e:Value,(e.cells.size=s/\One e)/\Q i e/\∀j u,e.cells[j]?=some u->w.cell? ⟨g,(oo+s*i)+j,none⟩=some u):
  ∃news:List Value,news.length=n*s/\(∀u∈news,u.oneCell'=true)/\(∀j u,news[j]?=some u->w.cell? ⟨g,oo+j,none⟩=some u)/\∀i,i<n->∃e:Value,(e.cells.size=s/\One e)/\Q i e/\∀j u,e.cells[j]?=some u->news[s*i+j]?=some u:=by
 induction n with
 | zero=>exact⟨[],by simp,by simp,λj u h=>by simp at h,λi hi=>by omega⟩
 | succ n ih=>
  obtain⟨news,h1,h2,h3,h4⟩:=ih λi hi=>hel i zo
  obtain⟨e,⟨e1,e2⟩,e3,e4⟩:=hel n zo
  refine⟨news++e.cells.toList,by rw[List.length_append,h1,Array.length_toList,e1,Nat.succ_mul],λu hu=>?_,λj u hj=>?_,λi hi=>?_⟩
  ·rcases List.mem_append.1 hu with h | h
   ·exact h2 u h
   ·exact e2 u h
  ·rcases Nat.lt_or_ge j news.length with hl | hl
   ·rw[List.getElem?_append_left hl] at hj
    exact h3 j u hj
   ·rw[List.getElem?_append_right hl,Array.getElem?_toList] at hj
    have:=e4 _ u hj
    rw[h1,Nat.mul_comm n s] at this
    rw[h1,Nat.mul_comm n s] at hl
    rw[show oo+j=oo+s*n+(j-s*n) by omega]
    exact this
  ·rcases Nat.lt_or_ge i n with hl | hl
   ·obtain⟨e',q1,q2,q3⟩:=h4 i hl
    refine⟨e',q1,q2,λj u hj=>?_⟩
    have:=q3 j u hj
    rw[List.getElem?_append_left (List.getElem?_eq_some_iff.1 this).1]
    exact this
   ·obtain rfl:i=n:=by omega
    refine⟨e,⟨e1,e2⟩,e3,λj u hj=>?_⟩
    rw[List.getElem?_append_right (by rw[h1,Nat.mul_comm];omega),h1,Nat.mul_comm,Nat.add_sub_cancel_left,Array.getElem?_toList]
    exact hj
theorem src_ok [Fz]{s m:Nat}{E:Nat->SV}{ks:List Nat}{own':Nat->Hl}{v:Value}{T e:TypeId}(H:Hp M F w0 own η w){sds:List Prop}(h:srcOf s a own'=some (E,m,ks,sds))(hsd:conj sds)(ho:∀k∈ks,own k=own' k)(hv:a.R η (Av F own η) w v)(hT:P.underlying T=some (.slice e)):
  ∃news:List Value,Src P s T v m news w/\∀i,i<m->∃e0:Value,(e0.cells.size=s/\One e0)/\(E i).R η (Av F own η) w e0/\∀j u,e0.cells[j]?=some u->news[s*i+j]?=some u:=by
 have key:∀(A0:Option Addr) (c:Nat),v=.slice A0 m c->Nilled A0 m c->(∀i,i<m->∃g oo,A0=some ⟨g,oo,none⟩/\∃e0:Value,(e0.cells.size=s/\One e0)/\(E i).R η (Av F own η) w e0/\∀j u,e0.cells[j]?=some u->w.cell? ⟨g,(oo+s*i)+j,none⟩=some u)->(∀a,A0=some a->a.spot=none)->
   ∃news:List Value,Src P s T v m news w/\∀i,i<m->∃e0:Value,(e0.cells.size=s/\One e0)/\(E i).R η (Av F own η) w e0/\∀j u,e0.cells[j]?=some u->news[s*i+j]?=some u:=by
  intro A0 c ev hn hel _
  subst ev
  cases A0 with
  | none=>
   obtain⟨rfl,rfl⟩:=hn rfl
   exact⟨[],Src.ofNil w hT 0,λi hi=>by omega⟩
  | some ad=>
   rcases Nat.eq_zero_or_pos m with rfl | hpos
   ·exact⟨[],Src.ofSlice w hT ad 0 c [] (by simp) (λj u h=>by simp at h) (λu h=>by simp at h),λi hi=>by omega⟩
   ·obtain⟨g,oo,ea,_⟩:=hel 0 hpos
    obtain rfl:=Option.some.inj ea
    obtain⟨news,h1,h2,h3,h4⟩:=cells_list (w:=w) (g:=g) (oo:=oo) (Q:=λi e0=>(E i).R η (Av F own η) w e0) λi hi=>by
     obtain⟨g',oo',ea,rest⟩:=hel i hi
     simp only[Option.some.injEq,Addr.mk.injEq,and_true] at ea
     obtain⟨rfl,rfl⟩:=ea
     exact rest
    exact⟨news,Src.ofSlice w hT ⟨g,oo,none⟩ m c news h1 (λj u hj=>by rw[add_plain];exact h3 j u hj) h2,h4⟩
 unfold srcOf at h
 split at h
 ·rename_i s' E' n'
  split at h
  ·rename_i es
   subst es
   simp only[Option.some.injEq,Prod.mk.injEq] at h
   obtain⟨rfl,rfl,rfl,rfl⟩:=h
   obtain⟨A0,c,ev,h1,h2,h3,k⟩:=hv
   rcases Nat.eq_zero_or_pos n' with rfl | hpos
   ·cases A0 with
    | none=>
     obtain⟨_,rfl⟩:=h1 rfl
     subst ev
     exact⟨[],Src.ofNil w hT 0,λi hi=>by omega⟩
    | some ad=>
     subst ev
     exact⟨[],Src.ofSlice w hT ad 0 c [] (by simp) (λj u h=>by simp at h) (λu h=>by simp at h),λi hi=>by omega⟩
   ·obtain⟨g0,o0,ea0,_⟩:=k 0 hpos
    refine key A0 c ev h1 (λi hi=>?_) (λa ha=>by rw[ea0] at ha;cases ha;rfl)
    obtain⟨g,oo,ea,_,_,e0,q1,q2,q3⟩:=k i hi
    exact⟨g,oo,ea,e0,q1,q2,q3⟩
  ·cases h
 ·simp only[Option.some.injEq,Prod.mk.injEq] at h
  obtain⟨rfl,rfl,rfl,rfl⟩:=h
  obtain rfl:v=.slice none 0 0:=hv
  exact⟨[],Src.ofNil w hT 0,λi hi=>by omega⟩
 ·rename_i ad c
  simp only[Option.some.injEq,Prod.mk.injEq] at h
  obtain⟨rfl,rfl,rfl,rfl⟩:=h
  obtain rfl:v=.slice (some ad) 0 c:=hv
  exact⟨[],Src.ofSlice w hT ad 0 c [] (by simp) (λj u h=>by simp at h) (λu h=>by simp at h),λi hi=>by omega⟩
 ·rename_i k i
  split at h
  ·rename_i T' s' E' n' sd hob
   split at h
   ·rename_i es
    subst es
    simp only[Option.some.injEq,Prod.mk.injEq] at h
    obtain⟨rfl,rfl,rfl,rfl⟩:=h
    rw[←ho k (by simp)] at hob
    have hob:=xG hob hsd
    obtain⟨hd,he,hok⟩:=H.ob k i _ hob
    have hv1:=hv.1
    obtain⟨A0,c,rfl,h1,h2,hT',h3⟩:=hok
    rw[hv1] at he
    have ev:=Option.some.inj he
    rcases h3 with⟨rfl,rfl,rfl⟩ | ⟨g,cs,rfl,hB,hcs,hel⟩
    ·subst ev
     exact⟨[],Src.ofNil w hT 0,λi hi=>by omega⟩
    ·refine key (some ⟨g,0,none⟩) c ev (λe=>by cases e) (λi hi=>⟨g,0,rfl,?_⟩) (λa ha=>by cases ha;rfl)
     obtain⟨e0,q1,q2,q3⟩:=hel i hi
     exact⟨e0,q1,q2,λj u hj=>by rw[Nat.zero_add];exact q3 j u hj⟩
   ·cases h
  ·cases h
 ·cases h
theorem snd_turn [Fz]{k i k':Nat}{o1 o':OB}{h h':Value}{w':World}{side:List Prop}{rd:List Nat}{own2:Hl}(H:Hp M F w0 own η w)(hr:(execOp ρ o).run P w=.ok (.value h') w')(hk:(own k).get i=some o1)(he:η k i=some h)(hk':own k'=.unborn)(h2:own2=own k)
  (hs:w.heap.size<=w'.heap.size)(hw:∀b,b<w.heap.size->hb h≠some b->w'.heap[b]?=w.heap[b]?)(hos:w'.os=w.os)(htp:w'.tape=w.tape)(hou:w'.output=w.output)
  (hn:∀b,hb h'=some b->hb h=some b∨w.heap.size<=b)
  (hok:∀η' A',Keep η η' (Av F own η) A' w w'->o'.ok η' A' w' h'):Snd P o ρ M F w0 own η w ⟨.own k' 0,side,[(k,own2.kill i),(k',.one o')],rd⟩:=by
 subst h2
 obtain⟨h1,h2⟩:=H.turn (o':=o') hk he hk' hs hw hos htp hou hn λK=>hok _ _ K
 unfold Snd Yld
 rw[hr]
 exact⟨_,h1,h2,by unfold yO;rw[if_pos rfl];rfl,OB.hdr (hok _ _ h2)⟩
def srcA [Fz] (P:Program) (T':TypeId) (s:Nat) (b:SV) (own:Nat->Hl) (zv:Value) (j:Nat):Option ((Nat->SV)×Nat×List Nat×List Prop):=match elemOf P T' with
  | some _=>srcOf s b own
  | none => match P.underlying T', b with
    | some (.int .i64),.ex (.int .i64 z)=>if zv.cells.all (·.oneCell')=true then some (λ_=>.ex zv,j,[],[z=((j:Nat):Int),j<=68719476736]) else none
    | _,_=>none
theorem srcA_ok [Fz]{s m j:Nat}{E:Nat->SV}{ks:List Nat}{own':Nat->Hl}{v zv:Value}{T':TypeId}{i:TypeInfo}(H:Hp M F w0 own η w){sds:List Prop}(h:srcA P T' s a own' zv j=some (E,m,ks,sds))(hsd:conj sds)(ho:∀k∈ks,own k=own' k)(hv:a.R η (Av F own η) w v)(hs:i.size=s)(hzs:zv.cells.size=s):
  ∃news:List Value,SrcA P i zv T' v m news w/\∀i,i<m->∃e0:Value,(e0.cells.size=s/\One e0)/\(E i).R η (Av F own η) w e0/\∀j u,e0.cells[j]?=some u->news[s*i+j]?=some u:=by
 unfold srcA at h
 split at h
 ·rename_i es2 hT'
  obtain⟨e2,s2⟩:=es2
  obtain⟨hu2,_⟩:=xS hT'
  obtain⟨news,hS,hel⟩:=src_ok H h hsd ho hv hu2
  rw[←hs] at hS
  exact⟨news,.inl hS,hel⟩
 ·split at h
  ·rename_i z hk
   split at h
   ·rename_i h1
    simp only[Option.some.injEq,Prod.mk.injEq] at h
    obtain⟨rfl,rfl,rfl,rfl⟩:=h
    obtain⟨rfl,hm⟩:=hsd
    have ev:v=.int .i64 ((j:Nat):Int):=hv
    have hone:One zv:=λu hu=>Array.all_eq_true_iff_forall_mem.1 h1 u (by simpa using hu)
    refine⟨_,.inr ⟨hk,ev,rfl,λu hu=>?_,hm,by rw[hzs,hs]⟩,λt ht=>⟨zv,⟨hzs,hone⟩,rfl,λjj u hj=>?_⟩⟩
    ·obtain⟨t,ht,e⟩:=List.getElem_of_mem hu
     have h2:t<j*s:=by rw[Array.length_toList,size_zeroCells,hzs] at ht;exact ht
     have hs0:0<s:=Nat.pos_of_ne_zero λe=>by rw[e,Nat.mul_zero] at h2;omega
     have h3:=zero_cells (z:=zv.cells) (i:=t/s) (j:=t%s) hzs (Nat.div_lt_of_lt_mul (by rw[Nat.mul_comm];exact h2)) (Nat.mod_lt _ hs0)
     rw[Nat.div_add_mod] at h3
     rw[←Array.getElem?_toList,List.getElem?_eq_getElem ht,e] at h3
     exact hone u (by simpa using Array.mem_of_getElem? h3.symm)
    ·rw[Array.getElem?_toList,zero_cells hzs ht (by rw[←hzs];exact(Array.getElem?_eq_some_iff.1 hj).1)]
     exact hj
   ·cases h
  ·cases h
def appR [Fz] (P:Program) (T T':TypeId) (a b:SV) (own:Nat->Hl) (nx:Nat) (h:Hint):Res:=match elemOf P T,h with
  | some (e, s), .row j0 E' => match P.info? e with
    | some i => match i.zero with
      | some zv => if uT e ∨ zv.cells.size ≠ s ∨ s = 0 ∨ 128 < i.bytes then bad else match srcA P T' s b own zv j0 with
        | none=>bad
        | some (E2, m, ks, sds) => match a with
          | .ex (.slice none 0 0)=>⟨.own nx 0,[m<=68719476736,∀j,j<m->conj (SV.le (E2 j) (E' j))]++sds,[(nx,.one (.row e s E' m))],ks⟩
          | .own k i => match (own k).gs i with
            | (some (.row e' s' E n),sd)=>if e'=e/\s'=s then⟨.own nx 0,[n+m<=68719476736,∀j,j<n->E' j=E j,∀j,j<m->conj (SV.le (E2 j) (E' (n+j)))]++(sds++sd),[(k,(own k).kill i),(nx,.one (.row e s E' (n+m)))],k::ks⟩ else bad
            | _=>bad
          | _=>bad
      | none=>bad
    | none=>bad
  | _,_=>bad
theorem elt_at [Fz]{η':Eta}{A':Nat->Prop}{w':World}{s n m i:Nat}{E E2 E':Nat->SV}{g:Nat}{cs:Array Value}{e:TypeId}{A:Nat->Prop}{olds news rest:List Value}(K:Keep η η' A A' w w')(hb:Blk w' g e cs)(hcs:cs.toList=olds++news++rest)(hol:olds.length=s*n)
  (hold:∀i,i<n->∃e0:Value,(e0.cells.size=s/\One e0)/\(E i).R η A w e0/\∀j u,e0.cells[j]?=some u->olds[s*i+j]?=some u)(hnew:∀i,i<m->∃e0:Value,(e0.cells.size=s/\One e0)/\(E2 i).R η A w e0/\∀j u,e0.cells[j]?=some u->news[s*i+j]?=some u)
  (h1:∀j,j<n->E' j=E j)(h2:∀j,j<m->conj (SV.le (E2 j) (E' (n+j))))(hi:i<n+m):EltS (E' i) η' A' w' g (s*i) s:=by
 rcases Nat.lt_or_ge i n with hl | hl
 ·obtain⟨e0,q1,q2,q3⟩:=hold i hl
  refine⟨e0,q1,by rw[h1 i hl];exact SV.keep K _ _ q2,λj u hj=>?_⟩
  have:=q3 j u hj
  rw[hb.cell,←Array.getElem?_toList,hcs,List.append_assoc,List.getElem?_append_left (List.getElem?_eq_some_iff.1 this).1]
  exact this
 ·obtain⟨d,rfl⟩:∃d,i=n+d:=⟨i-n,by omega⟩
  obtain⟨e0,q1,q2,q3⟩:=hnew d zo
  refine⟨e0,q1,SV.keep K _ _ (SV.le_ok _ _ _ (h2 d zo) q2),λj u hj=>?_⟩
  have:=q3 j u hj
  rw[hb.cell,←Array.getElem?_toList,hcs,List.append_assoc,Nat.mul_add,Nat.add_assoc,List.getElem?_append_right zo,hol,Nat.add_sub_cancel_left,List.getElem?_append_left (List.getElem?_eq_some_iff.1 this).1]
  exact this
theorem snd_app [Fz]{T T':TypeId}{nx:Nat}{hi:Hint}{own':Nat->Hl}(H:Hp M F w0 own η w)(h:o.op=.call {callee:=.builtin .append,args:=#[x,y],argTypes:=#[T,T']})(hx:a.R η (Av F own η) w (ρ x))(hy:b.R η (Av F own η) w (ρ y)){r:Res}(hr:appR P T T' a b own' nx hi=r)(ho:∀k∈r.rd,own k=own' k)(hk:∀p∈r.new,nx<=p.1->own p.1=.unborn)(hs:conj r.side):Snd P o ρ M F w0 own η w r:=by
 have exec:∀v w',(Builtin.append_ #[T,T'] o.type #[ρ x,ρ y]).run P w=.ok v w'->(execOp ρ o).run P w=.ok (.value v) w':=λv w' e=>by unfold execOp;rw[h];simp[resolve,invoke,builtin,e]
 unfold appR at hr
 split at hr
 ·rename_i e s k0 E' hT
  obtain⟨hu,i0,hi0,hz0⟩:=xS hT
  split at hr
  ·rename_i i hi1
   rw[hi0] at hi1
   obtain rfl:=Option.some.inj hi1
   split at hr
   ·rename_i zv hzv
    split at hr
    ·subst hr;exact hs.elim
    ·rename_i hc
     simp only[not_or,ne_eq,Decidable.not_not,Nat.not_lt] at hc
     obtain⟨c1,c2,c3,c4⟩:=hc
     split at hr
     ·subst hr;exact hs.elim
     ·rename_i E2 m ks sds hsrc
      have grow:∀(A0:Option Addr) (n c:Nat) (olds news:List Value),ρ x=.slice A0 n c->SrcA P i0 zv T' (ρ y) m news w->n+m<=68719476736->c<n+m->olds.length=s*n->(Builtin.firstCells i0.size n (.slice A0 n c)).run P w.drew=.ok olds.toArray w.drew->
        ∃cc,(execOp ρ o).run P w=.ok (.value (.slice (some ⟨w.heap.size,0,none⟩) (n+m) cc)) (w.drew.alloc (.cells ((olds++news).toArray++Builtin.zeroCells zv.cells (cc-(n+m))) e))/\n+m<=cc/\cc<=maxLen/\((olds++news).toArray++Builtin.zeroCells zv.cells (cc-(n+m))).size=s*cc:=by
       intro A0 n c olds news ex hS hle hlt hol hold
       have hb2:(n+m)*i0.bytes<=(n+m)*128:=Nat.mul_le_mul_left _ c4
       have hrun:=run_append_grow_A hS o.type hu hi0 hzv c4 A0 n c olds hold hlt zo (growslice_fits zo zo)
       have hcap:=grownCap_ge w (n+m) c e
       have hcap2:=grownCap_le_maxLen w (n+m) c e (by unfold maxLen;omega)
       generalize grownCap w (n+m) c e=cc at hrun hcap hcap2
       refine⟨cc,exec _ _ (by rw[ex];exact hrun),hcap,hcap2,?_⟩
       have hnl:=hS.newsLen
       rw[hz0] at hnl
       simp only[Array.size_append,List.size_toArray,List.length_append,hol,hnl,size_zeroCells,c2]
       have e2:(cc-(n+m))*s=s*cc-s*(n+m):=by rw[Nat.mul_comm,Nat.mul_sub]
       have e3:s*(n+m)<=s*cc:=Nat.mul_le_mul_left s hcap
       rw[Nat.mul_add] at e2 e3
       rw[Nat.mul_comm m s]
       omega
      split at hr
      ·
       subst hr
       replace hk:=hk (nx,_) (List.mem_cons_self ..) (Nat.le_refl _)
       obtain⟨hs,hsds⟩:=zD hs
       obtain⟨hm,hle⟩:=hs
       have hx:ρ x=.slice none 0 0:=hx
       have ho':∀k∈ks,own k=own' k:=ho
       obtain⟨news,hS,hel⟩:=srcA_ok H hsrc hsds ho' hy hz0 c2
       rcases Nat.eq_zero_or_pos m with rfl | hpos
       ·have hrun:(Builtin.append_ #[T,T'] o.type #[.slice none 0 0,ρ y]).run P w=.ok (.slice none 0 0) w:=hS.nilled o.type hu hi0
        exact snd_new (ob:=.row e s E' 0) H (exec _ _ (by rw[hx];exact hrun)) (Grow.refl w) hk (λb hb=>by cases hb) λη' A' K=>⟨none,0,rfl,Nat.le_refl _,Nat.zero_le _,c1,.inl ⟨rfl,rfl,rfl⟩⟩
       ·obtain⟨cc,g1,g2,g3,g4⟩:=grow none 0 0 [] news hx hS zo zo (by simp) (run_firstCells_none w.drew _ _ _ _)
        rw[Nat.zero_add] at g1 g2 g4
        have hg:Grow w (w.drew.alloc (.cells (([]++news).toArray++Builtin.zeroCells zv.cells (cc-m)) e)):=((Grow.refl w).drew).alloc _
        refine snd_new (ob:=.row e s E' m) H g1 hg hk (λb hb=>by cases hb;exact Nat.le_refl _) λη' A' K=>?_
        have hb':Blk (w.drew.alloc (.cells (([]++news).toArray++Builtin.zeroCells zv.cells (cc-m)) e)) w.heap.size e _:=Blk.new w.drew e _
        refine⟨_,cc,rfl,g2,g3,c1,.inr ⟨w.heap.size,_,rfl,hb',g4,λi hi=>?_⟩⟩
        exact elt_at (E:=λ_=>.any) (n:=0) (m:=m) (olds:=[]) (rest:=(Builtin.zeroCells zv.cells (cc-m)).toList) K hb' (by simp) (by simp) (λi hi=>by omega) hel (λj hj=>by omega) (λj hj=>by rw[Nat.zero_add];exact hle j hj) zo
      ·
       rename_i k i
       split at hr
       ·rename_i e' s' E n sd hob
        split at hr
        ·rename_i hes
         obtain⟨rfl,rfl⟩:=hes
         subst hr
         replace hk:=hk (nx,_) (List.mem_cons_of_mem _ (List.mem_cons_self ..)) (Nat.le_refl _)
         obtain⟨hs,hsd2⟩:=zD hs
         obtain⟨hsds,hsd⟩:=zD hsd2
         obtain⟨hm,hE1,hE2⟩:=hs
         have hkk:own k=own' k:=ho k (by simp)
         obtain⟨news,hS,hel⟩:=srcA_ok H hsrc hsds (λk' hk'=>ho k' (List.mem_cons_of_mem _ hk')) hy hz0 c2
         rw[←hkk] at hob
         have hob:=xG hob hsd
         obtain⟨hd,he,hok⟩:=H.ob k i _ hob
         have hx1:=hx.1
         obtain⟨A0,c,rfl,h1,h2,hT0,h3⟩:=hok
         rw[hx1] at he
         have ex:=Option.some.inj he
         have he':η k i=some (.slice A0 n c):=by rw[hx1];exact he
         have hnl:=hS.newsLen
         rw[hz0] at hnl
         rcases Nat.lt_or_ge c (n+m) with hlt | hroom
         ·obtain⟨olds,hol,hold,holds⟩:∃olds:List Value,olds.length=s'*n/\(Builtin.firstCells i0.size n (.slice A0 n c)).run P w.drew=.ok olds.toArray w.drew/\∀i,i<n->∃e0:Value,(e0.cells.size=s'/\One e0)/\(E i).R η (Av F own η) w e0/\∀j u,e0.cells[j]?=some u->olds[s'*i+j]?=some u:=by
           rcases h3 with⟨rfl,rfl,rfl⟩ | ⟨g,cs,rfl,hB,hcs,hel0⟩
           ·exact⟨[],by simp,run_firstCells_none w.drew _ _ _ _,λi hi=>by omega⟩
           ·obtain⟨olds,q1,q2,q3,q4⟩:=cells_list (w:=w) (g:=g) (oo:=0) (Q:=λi e0=>(E i).R η (Av F own η) w e0) λi hi=>by
             obtain⟨e0,a1,a2,a3⟩:=hel0 i hi
             exact⟨e0,a1,a2,λj u hj=>by rw[Nat.zero_add];exact a3 j u hj⟩
            exact⟨olds,by rw[q1,Nat.mul_comm],run_firstCells_some w.drew _ _ _ _ _ _ (by rw[q1,hz0]) (λj v hj=>by
             rw[add_plain]
             exact q3 j v hj),q4⟩
          obtain⟨cc,g1,g2,g3,g4⟩:=grow A0 n c olds news ex hS hm hlt hol hold
          have hg:Grow w (w.drew.alloc (.cells ((olds++news).toArray++Builtin.zeroCells zv.cells (cc-(n+m))) e')):=((Grow.refl w).drew).alloc _
          refine snd_turn H g1 hob he' hk hkk.symm hg.size (λb hb _=>hg.block b hb) hg.os hg.tape hg.output (λb hb=>by cases hb;exact .inr (Nat.le_refl _)) λη' A' K=>?_
          have hb':Blk (w.drew.alloc (.cells ((olds++news).toArray++Builtin.zeroCells zv.cells (cc-(n+m))) e')) w.heap.size e' _:=Blk.new w.drew e' _
          refine⟨_,cc,rfl,g2,g3,c1,.inr ⟨w.heap.size,_,rfl,hb',g4,λi hi=>?_⟩⟩
          exact elt_at (rest:=(Builtin.zeroCells zv.cells (cc-(n+m))).toList) K hb' (by simp) hol holds hel hE1 hE2 hi
         ·rcases h3 with⟨rfl,rfl,rfl⟩ | ⟨g,cs,rfl,hB,hcs,hel0⟩
          ·obtain rfl:m=0:=by omega
           have hrun:(Builtin.append_ #[T,T'] o.type #[.slice none 0 0,ρ y]).run P w=.ok (.slice none 0 0) w:=hS.nilled o.type hu hi0
           exact snd_turn H (exec _ _ (by rw[ex];exact hrun)) hob he' hk hkk.symm (Nat.le_refl _) (λ_ _ _=>rfl) rfl rfl rfl (λb hb=>by cases hb) λη' A' K=>⟨none,0,rfl,Nat.le_refl _,Nat.zero_le _,c1,.inl ⟨rfl,rfl,rfl⟩⟩
          ·have hnc:s'*n+m*s'<=s'*c:=by
            have:=Nat.mul_le_mul_left s' hroom
            rw[Nat.mul_add,Nat.mul_comm s' m] at this
            exact this
           have hrun:=run_append_room_A hS o.type hu hi0 hzv c4 g 0 n c hroom (λj hj=>by
            rw[hB.cell,hz0,Array.getElem?_eq_getElem (show 0+n*s'+j<cs.size by rw[Nat.mul_comm n s'];omega)]
            rfl) (λj hj=>hB.frozen _)
           obtain⟨cs',hb',hcs'⟩:=jV news (0+n*i0.size) hB (by rw[hz0,Nat.mul_comm n s'];omega)
           have hput:=put_setCells (l:=news) (o:=0+n*i0.size) hB
           have hlen:(cs.toList.take (s'*n)).length=s'*n:=by rw[List.length_take,Array.length_toList];omega
           have hcs2:cs'.toList=cs.toList.take (s'*n)++news++cs.toList.drop (s'*n+news.length):=by rw[hcs',hz0,Nat.zero_add,Nat.mul_comm n s']
           refine snd_turn (h':=.slice (some ⟨g,0,none⟩) (n+m) c) H (exec _ _ (by rw[ex];exact hrun)) hob he' hk hkk.symm (by rw[hput.size];exact Nat.le_refl _) (λb _ hb=>hput.other b λe=>hb (by rw[e];rfl)) hput.os hput.tape hput.output (λb hb=>.inl hb) λη' A' K=>?_
           refine⟨_,c,rfl,hroom,h2,c1,.inr ⟨g,cs',rfl,hb',?_,λi hi=>?_⟩⟩
           ·have:=congrArg List.length hcs2
            simp only[List.length_append,hlen,List.length_drop,Array.length_toList] at this
            omega
           ·refine elt_at (E:=E) (n:=n) K hb' hcs2 hlen (λi hi=>?_) hel hE1 hE2 hi
            obtain⟨e0,a1,a2,a3⟩:=hel0 i hi
            refine⟨e0,a1,a2,λj u hj=>?_⟩
            have:=a3 j u hj
            rw[hB.cell] at this
            have hlt:s'*i+j<s'*n:=by
             have h1:=(Array.getElem?_eq_some_iff.1 hj).1
             have h2:=Nat.mul_le_mul_left s' (show i+1<=n from hi)
             rw[Nat.mul_succ] at h2
             omega
            rw[List.getElem?_take_of_lt hlt,Array.getElem?_toList]
            exact this
        ·subst hr;exact hs.elim
       ·subst hr;exact hs.elim
      ·subst hr;exact hs.elim
   ·subst hr;exact hs.elim
  ·subst hr;exact hs.elim
 ·subst hr;exact hs.elim
end
open Go.RowKit
theorem splice_get [Fz]{l m:List Value}{a i:Nat}(h:a+m.length<=l.length):(l.take a++m++l.drop (a+m.length))[i]?=if i<a then l[i]? else if i<a+m.length then m[i-a]? else l[i]?:=by
 have hlen:(l.take a).length=a:=by rw[List.length_take];omega
 by_cases h1:i<a
 ·rw[if_pos h1,List.append_assoc,List.getElem?_append_left zo,List.getElem?_take_of_lt h1]
 ·rw[if_neg h1,List.append_assoc,List.getElem?_append_right zo,hlen]
  by_cases h2:i<a+m.length
  ·rw[if_pos h2,List.getElem?_append_left zo]
  ·rw[if_neg h2,List.getElem?_append_right zo,List.getElem?_drop]
   congr 1
   omega
section
variable {P:Program} {o:Oper} {ρ:Operand->Value} {M F:Nat->Prop} {w0 w:World} {own:Nat->Hl} {η:Eta} {x y:Operand} {a b:SV}
theorem snd_change [Fz]{k i:Nat}{ob o':OB}{h:Value}{g:Nat}{w':World}{nv:Next}{v:Value}{sv:SV}{side:List Prop}{rd:List Nat}{c2:Hl}(H:Hp M F w0 own η w)(hr:(execOp ρ o).run P w=.ok nv w')(hnv:nv=.skip/\v=undef∨nv=.value v)(hv:∀A w',sv.R η A w' v)
  (hk:(own k).get i=some ob)(he:η k i=some h)(hg:hb h=some g)(h2:Alt (own k) c2 i o')(p:Put w w' g)(hok:Keep η η (Av F own η) (Av F own η) w w'->o'.ok η (Av F own η) w' h):Snd P o ρ M F w0 own η w ⟨sv,side,[(k,c2)],rd⟩:=by
 obtain⟨h1,h2⟩:=H.change h2 hk he p.size (λb hb=>p.other b λe=>hb (by rw[e];exact hg)) p.os p.tape p.output hok
 unfold Snd Yld
 rw[hr]
 rcases hnv with⟨rfl,rfl⟩ | rfl
 ·exact⟨η,h1,h2,hv _ _⟩
 ·exact⟨η,h1,h2,hv _ _⟩
def putH (c:Hl) (i:Nat) (o':OB) (h:Hint):Option (Hl×List Prop):=match c,i,h with
 | .one _,0,_=>some (.one o',[])
 | .fam n f,i,.rowF _ f'=>some (.fam n f',[f' i=o',∀t,t<n->t≠i->f' t=f t])
 | _,_,_=>none
theorem putH_ok [Fz]{c c':Hl}{i:Nat}{o':OB}{h:Hint}{sd:List Prop}(e:putH c i o' h=some (c',sd))(hs:conj sd):Alt c c' i o':=by
 unfold putH at e
 split at e
 ·simp only[Option.some.injEq,Prod.mk.injEq] at e
  obtain⟨rfl,rfl⟩:=e
  exact Alt.one
 ·simp only[Option.some.injEq,Prod.mk.injEq] at e
  obtain⟨rfl,rfl⟩:=e
  exact Alt.fam hs.1 hs.2
 ·cases e
def hintE:Hint->Option (Nat->SV)
 | .row _ E=>some E
 | .rowF E _=>some E
 | _=>none
def storeR [Fz] (P:Program) (T:TypeId) (a b:SV) (own:Nat->Hl) (h:Hint):Res:=match tyNK P T,adr a with
  | some (n, kk), some (k, i, s, j, off) => if b.solid = true /\ b.sz = n /\ b.kind = some kk then
      match (own k).gs i with
      | (some (.var T' c q), sd) => if s = 0 /\ c.fine = true then (match SV.upd n kk b c off with
        | some c' => (match putH (own k) i (.var T' c' q) h with
          | some (c2,sd2)=>⟨.any,sd++sd2,[(k,c2)],[k]⟩
          | none=>bad)
        | none=>bad) else bad
      | (some (.row T' s' E m), sd) => match hintE h with
        | some E' => if s = s' /\ 0 < s /\ (E j).fine = true then (match SV.upd n kk b (E j) off with
          | some e' => (match putH (own k) i (.row T' s E' m) h with
            | some (c2,sd2)=>⟨.any,[j<m,conj (SV.le e' (E' j)),∀t,t<m->t≠j->E' t=E t]++(sd++sd2),[(k,c2)],[k]⟩
            | none=>bad)
          | none=>bad) else bad
        | none=>bad
      | _=>bad
    else bad
  | _,_=>bad
theorem snd_store [Fz]{T:TypeId}{hi:Hint}{own':Nat->Hl}(H:Hp M F w0 own η w)(h:o.op=.store T x y)(hx:a.R η (Av F own η) w (ρ x))(hy:b.R η (Av F own η) w (ρ y)){r:Res}(hr:storeR P T a b own' hi=r)(ho:∀k∈r.rd,own k=own' k)(hs:conj r.side):Snd P o ρ M F w0 own η w r:=by
 have exec:∀w',(Instr.storeAt T (ρ x) (ρ y)).run P w=.ok () w'->(execOp ρ o).run P w=.ok .skip w':=λw' e=>by unfold execOp;rw[h];simp[e]
 unfold storeR at hr
 split at hr
 ·rename_i n kk k i s j off hT ha
  split at hr
  ·rename_i hb
   obtain⟨b1,b2,b3⟩:=hb
   have hsy:=b2▸(SV.shape b _ b1 hy).1 kk b3
   have hyl:=hsy.cells
   split at hr
   ·rename_i T' c q sd hob
    split at hr
    ·rename_i hc
     obtain⟨rfl,hf⟩:=hc
     split at hr
     ·rename_i c' hu
      split at hr
      rotate_left
      ·subst hr;exact hs.elim
      rename_i c2 sd2 hput
      subst hr
      obtain⟨hsd,hsd2⟩:=zD hs
      have hkk:own k=own' k:=ho k (by simp)
      rw[←hkk] at hob hput
      have hob:=xG hob hsd
      obtain⟨f1,k0,f2⟩:=fine_ok hf
      obtain⟨hd,he,hok⟩:=H.ob k i _ hob
      obtain⟨b',hb1,hv1⟩:∃b,hb hd=some b/\ρ x=.pointer (some ⟨b,0*j+off,none⟩):=by
       rcases adr_ok ha hx he hok (.inr ⟨T',c,_,rfl⟩) with⟨_,_,h⟩ | h<;>exact h
      obtain⟨b2',u0,rfl,hB,hR,hT'⟩:=hok
      obtain rfl:=Option.some.inj hb1
      obtain⟨v',p1,p2,p3,p4,p5,p6⟩:=upd_ok b1 b3 b2 hy f1 f2 hR hu
      rw[Array.length_toList] at p6
      obtain⟨w',cs',q1,q2,q3,q4⟩:=store_at (P:=P) hT hsy hB p6
      rw[Nat.zero_mul,Nat.zero_add] at hv1
      refine snd_change (v:=undef) H (exec w' (by rw[hv1];exact q1)) (.inl ⟨rfl,rfl⟩) (λ_ _=>trivial) hob he rfl (putH_ok hput hsd2) q2 λK=>⟨b2',v',rfl,?_,SV.keep K _ _ p1,hT'⟩
      have:cs'=v'.cells:=by rw[←Array.toList_inj,q4,p5]
      rw[←this];exact q3
     ·subst hr;exact hs.elim
    ·subst hr;exact hs.elim
   ·rename_i T' s' E m sd hob
    split at hr
    ·rename_i E' _
     split at hr
     ·rename_i hc
      obtain⟨rfl,hpos,hf⟩:=hc
      split at hr
      ·rename_i e' hu
       split at hr
       rotate_left
       ·subst hr;exact hs.elim
       rename_i c2 sd2 hput
       subst hr
       obtain⟨hs,hsds⟩:=zD hs
       obtain⟨hsd,hsd2⟩:=zD hsds
       obtain⟨hj,hle,hot⟩:=hs
       have hkk:own k=own' k:=ho k (by simp)
       rw[←hkk] at hob hput
       have hob:=xG hob hsd
       obtain⟨f1,k0,f2⟩:=fine_ok hf
       obtain⟨hd,he,hok⟩:=H.ob k i _ hob
       obtain⟨b',hb1,hv1⟩:∃b,hb hd=some b/\ρ x=.pointer (some ⟨b,s*j+off,none⟩):=by
        rcases adr_ok ha hx he hok (.inl zo) with⟨_,_,h⟩ | h<;>exact h
       obtain⟨A0,c,rfl,h1,h2,hT0,h3⟩:=hok
       rcases h3 with⟨rfl,_,_⟩ | ⟨g,cs,rfl,hB,hcs,hel⟩
       ·cases hb1
       ·obtain rfl:=Option.some.inj hb1
        obtain⟨e0,⟨a1,a2⟩,a3,a4⟩:=hel j hj
        obtain⟨v',p1,p2,p3,p4,p5,p6⟩:=upd_ok b1 b3 b2 hy f1 f2 a3 hu
        have p6':off+n<=s:=by rw[Array.length_toList,a1] at p6;exact p6
        have hjm:s*j+s<=s*c:=by
         have:=Nat.mul_le_mul_left s (show j+1<=c by omega)
         rw[Nat.mul_succ] at this
         exact this
        obtain⟨w',cs',q1,q2,q3,q4⟩:=store_at (P:=P) (o:=s*j+off) hT hsy hB zo
        refine snd_change (v:=undef) H (exec w' (by rw[hv1];exact q1)) (.inl ⟨rfl,rfl⟩) (λ_ _=>trivial) hob he rfl (putH_ok hput hsd2) q2 λK=>⟨_,c,rfl,h1,h2,hT0,.inr ⟨g,cs',rfl,q3,?_,λt ht=>?_⟩⟩
        ·have:=congrArg List.length q4
         simp only[List.length_append,List.length_take,List.length_drop,Array.length_toList] at this hyl
         omega
        ·have hget:∀z,cs'[z]?=if z<s*j+off then cs[z]? else if z<s*j+off+n then(ρ y).cells[z-(s*j+off)]? else cs[z]?:=λz=>by
          rw[←Array.getElem?_toList,q4,←hyl,splice_get (by rw[hyl,Array.length_toList];omega),hyl]
          simp only[Array.getElem?_toList]
         by_cases hte:t=j
         ·subst hte
          have hlen':v'.cells.size=s:=by
           have:=congrArg List.length p5
           simp only[List.length_append,List.length_take,List.length_drop,Array.length_toList] at this hyl
           omega
          refine⟨v',⟨hlen',λu hu=>?_⟩,SV.keep K _ _ (SV.le_ok _ _ _ hle p1),λz u hz=>?_⟩
          ·rw[p5] at hu
           simp only[List.mem_append] at hu
           rcases hu with(hu | hu) | hu
           ·exact a2 u (List.mem_of_mem_take hu)
           ·exact hsy.2.1 u hu
           ·exact a2 u (List.mem_of_mem_drop hu)
          ·have hzs:z<s:=hlen'▸(Array.getElem?_eq_some_iff.1 hz).1
           have e0c:∀z,z<s->cs[s*t+z]?=e0.cells[z]?:=λz hz=>by
            have h1:e0.cells[z]?=some e0.cells[z]:=Array.getElem?_eq_getElem zo
            have:=a4 z _ h1
            rw[hB.cell] at this
            rw[this,h1]
           rw[q3.cell,hget]
           rw[←Array.getElem?_toList,p5,←hyl,splice_get (by rw[hyl,Array.length_toList];omega),hyl] at hz
           simp only[Array.getElem?_toList] at hz
           by_cases z1:z<off
           ·rw[if_pos z1] at hz
            rw[if_pos zo,e0c z hzs];exact hz
           ·rw[if_neg z1] at hz
            rw[if_neg zo]
            by_cases z2:z<off+n
            ·rw[if_pos z2] at hz
             rw[if_pos zo,←hz]
             congr 1;omega
            ·rw[if_neg z2] at hz
             rw[if_neg zo,e0c z hzs];exact hz
         ·obtain⟨e1,c1,c2,c3⟩:=hel t ht
          refine⟨e1,c1,by rw[hot t ht hte];exact SV.keep K _ _ c2,λz u hz=>?_⟩
          have hzs:z<s:=c1.1▸(Array.getElem?_eq_some_iff.1 hz).1
          have:=c3 z u hz
          rw[hB.cell] at this
          rw[q3.cell,hget]
          rcases Nat.lt_or_gt_of_ne hte with hlt | hgt
          ·have:=Nat.mul_le_mul_left s (show t+1<=j from hlt)
           rw[Nat.mul_succ] at this
           rw[if_pos zo];assumption
          ·have:=Nat.mul_le_mul_left s (show j+1<=t from hgt)
           rw[Nat.mul_succ] at this
           rw[if_neg zo,if_neg zo];assumption
      ·subst hr;exact hs.elim
     ·subst hr;exact hs.elim
    ·subst hr;exact hs.elim
   ·subst hr;exact hs.elim
  ·subst hr;exact hs.elim
 ·subst hr;exact hs.elim
def litE:List SV->Nat->SV
 | [a]=>λ_=>a
 | l=>λi=>l.getD i .any
theorem litE_get{l:List SV}{i:Nat}{a:SV}(h:l[i]?=some a):litE l i=a:=by
 unfold litE
 split
 ·rename_i b
  have:i=0:=by
   have:=(List.getElem?_eq_some_iff.1 h).1
   simpa using this
  subst this
  simpa using h
 ·simp[h]
theorem fill_seq [Fz]{s:Nat}:∀(l:List (Nat×Value)) (p:Nat) (cs:Array Value),l.map (·.1)=List.range' p l.length->(∀q∈l,q.2.cells.size=s)->(p+l.length)*s<=cs.size->
  ∃cs',Instr.fill (λi=>some (i*s,s)) cs l=some cs'/\cs'.toList=cs.toList.take (p*s)++flat (l.map (·.2))++cs.toList.drop ((p+l.length)*s)
 | [],p,cs,_,_,_=>⟨cs,rfl,by simp[flat]⟩
 | (i,v)::l,p,cs,hk,hs,hl=>by
  simp only[List.map_cons,List.length_cons,List.range'_succ,List.cons.injEq] at hk hl
  obtain⟨rfl,hk⟩:=hk
  have hv:=hs (i,v) (by simp)
  have hmul:(i+(l.length+1))*s=(i+1+l.length)*s:=by rw[show i+(l.length+1)=i+1+l.length by omega]
  have hm2:(i+1)*s<=(i+1+l.length)*s:=Nat.mul_le_mul_right s zo
  rw[Nat.add_mul,Nat.one_mul] at hm2
  have hv':v.cells.size=s:=hv
  have hfit:i*s+v.cells.size<=cs.size:=by rw[hv'];omega
  have hfit2:i*s+s<=cs.size:=by omega
  have hf:=fill_fold hfit
  generalize hq:v.cells.zipIdx.foldl (λcs (c,j)=>cs.setIfInBounds (i*s+j) c) cs=cs1 at hf
  have hsz:cs1.size=cs.size:=by
   have:=congrArg List.length hf
   simp only[List.length_append,List.length_take,List.length_drop,Array.length_toList] at this
   omega
  obtain⟨cs',h1,h2⟩:=fill_seq l (i+1) cs1 hk (λq hq=>hs q (by simp[hq])) (by rw[hsz];omega)
  refine⟨cs',?_,?_⟩
  ·unfold Instr.fill
   simp only[hv',ne_eq,not_true_eq_false,decide_false,Bool.false_or]
   rw[if_neg (by simp;omega)]
   rw[hq];exact h1
  ·rw[h2,hf]
   have hlen:(cs.toList.take (i*s)).length=i*s:=by rw[List.length_take,Array.length_toList];omega
   have hlv:v.cells.toList.length=s:=by rw[Array.length_toList];exact hv'
   have e1:(i+1)*s=i*s+s:=by rw[Nat.add_mul,Nat.one_mul]
   have e2:(i+1+l.length)*s=i*s+s+l.length*s:=by rw[Nat.add_mul,e1]
   simp only[List.map_cons,yV,List.length_cons]
   have hX:(cs.toList.take (i*s)++v.cells.toList).length=i*s+s:=by rw[List.length_append,hlen,hlv]
   rw[hmul,e2,e1,hv',List.take_left' hX,List.drop_append,hX,List.drop_of_length_le zo,show i*s+s+l.length*s-(i*s+s)=l.length*s by omega,List.drop_drop]
   simp
theorem flat_get{s:Nat}:∀(vs:List Value) (i:Nat) (v:Value) (j:Nat) (u:Value),(∀x∈vs,x.cells.size=s)->vs[i]?=some v->v.cells[j]?=some u->(flat vs)[s*i+j]?=some u
 | [],i,v,j,u,_,h,_=>by simp at h
 | x::vs,0,v,j,u,hs,h,hj=>by
  simp at h
  subst h
  rw[yV,Nat.mul_zero,Nat.zero_add,List.getElem?_append_left (by rw[Array.length_toList];exact(Array.getElem?_eq_some_iff.1 hj).1),Array.getElem?_toList]
  exact hj
 | x::vs,i+1,v,j,u,hs,h,hj=>by
  have hx:=hs x (by simp)
  rw[yV,List.getElem?_append_right (by rw[Array.length_toList,hx,Nat.mul_succ];omega),Array.length_toList,hx,show s*(i+1)+j-s=s*i+j by rw[Nat.mul_succ];omega]
  exact flat_get vs i v j u (λy hy=>hs y (by simp[hy])) (by simpa using h) hj
def litR (P:Program) (T:TypeId) (len:Nat) (ks:List Nat) (xs:List SV):Res:=match elemOf P T with
  | some (e, s) => match P.info? e with
    | some i => match i.zero with
      | some zv=>if ks=List.range' 0 ks.length/\ks.length=len/\xs.length=len/\0<len/\0<s/\len*s<=16777216/\zv.cells.size=s/\xs.all (λa=>a.solid&&a.sz==s&&a.kind.isSome)=true then vl (.sl s (litE xs) len) [] else bad
      | none=>bad
    | none=>bad
  | none=>bad
theorem snd_lit [Fz]{T:TypeId}{len:Nat}{ps:Array (Nat×Operand)}{xs:List SV}(H:Hp M F w0 own η w)(h:o.op=.buildSlice T len ps)(hx:∀(i:Nat) (p:Nat×Operand) (a:SV),ps.toList[i]?=some p->xs[i]?=some a->a.R η (Av F own η) w (ρ p.2)){r:Res}(hr:litR P T len (ps.toList.map (·.1)) xs=r)(hs:conj r.side):Snd P o ρ M F w0 own η w r:=by
 unfold litR at hr
 split at hr
 ·rename_i e s hT
  obtain⟨hu,i0,hi0,hz0⟩:=xS hT
  split at hr
  ·rename_i i hi1
   rw[hi0] at hi1
   obtain rfl:=Option.some.inj hi1
   split at hr
   ·rename_i zv hzv
    split at hr
    ·rename_i hc
     subst hr
     obtain⟨c1,c2,c3,c4,c5,c6,c7,c8⟩:=hc
     rw[List.length_map] at c1 c2
     have hval:∀i,i<len->∃p a,ps.toList[i]?=some p/\xs[i]?=some a/\a.R η (Av F own η) w (ρ p.2)/\∃k,Shp k s (ρ p.2):=λi hi=>by
      have h1:ps.toList[i]?=some ps.toList[i]:=List.getElem?_eq_getElem zo
      have h2:xs[i]?=some xs[i]:=List.getElem?_eq_getElem zo
      have hR:=hx i _ _ h1 h2
      have:=List.all_eq_true.1 c8 xs[i] (List.getElem_mem _)
      simp only[Bool.and_eq_true,beq_iff_eq] at this
      obtain⟨k,hk⟩:=Option.isSome_iff_exists.1 this.2
      exact⟨_,_,h1,h2,hR,k,this.1.2▸(SV.shape _ _ this.1.1 hR).1 k hk⟩
     let l:List (Nat×Value):=ps.toList.map λp=>(p.1,ρ p.2)
     have hsz:∀q∈l,q.2.cells.size=s:=λq hq=>by
      obtain⟨p,hp,rfl⟩:=List.mem_map.1 hq
      obtain⟨i,hi,rfl⟩:=List.getElem_of_mem hp
      obtain⟨p',a,h1,h2,h3,k,h4⟩:=hval i zo
      rw[List.getElem?_eq_getElem hi] at h1
      obtain rfl:=Option.some.inj h1
      exact h4.1
     have hll:l.length=len:=by simp only[l,List.length_map];omega
     obtain⟨cs',f1,f2⟩:=fill_seq (s:=s) l 0 ((Array.range (len*s)).map (zv.cells[·%zv.cells.size]!)) (by simp only[l,List.map_map];rw[List.length_map,←c1];rfl) hsz (by rw[hll];simp)
     have hpos:¬len*s=0:=by
      have:=Nat.mul_pos c4 c5
      omega
     have hrun:=run_buildSlice (P:=P) w T e len (ps.map λ(i,x)=>(i,ρ x)) cs' i0 zv hu hi0 hzv (by rw[hz0];simp;omega) (by rw[hz0];exact hpos) (by
      have e1:(ps.map λ(i,x)=>(i,ρ x)).toList=l:=by simp[l]
      rw[e1,hz0];exact f1)
     have hexec:(execOp ρ o).run P w=.ok (.value (.slice (some ⟨w.heap.size,0,none⟩) len len)) (w.alloc (.cells cs' e)):=by
      unfold execOp
      rw[h]
      simp only[Sem.run_bind,hrun,Result.andThen_ok]
      rfl
     have hg:Grow w (w.alloc (.cells cs' e)):=(Grow.refl w).alloc _
     obtain⟨H',K⟩:=H.grow hg
     unfold Snd Yld
     rw[hexec]
     refine⟨η,H',K,_,len,rfl,(λe=>by cases e),Nat.le_refl _,?_,λi hi=>⟨w.heap.size,0,rfl,λha=>absurd (H.av_lt ha) (Nat.lt_irrefl _),by simp,?_⟩⟩
     ·have h1:len*1<=len*s:=Nat.mul_le_mul_left len c5
      unfold maxLen;omega
     ·obtain⟨p,a,h1,h2,h3,k,h4⟩:=hval i hi
      refine⟨ρ p.2,⟨h4.1,h4.2.1⟩,by rw[litE_get h2];exact SV.keep K _ _ h3,λj u hj=>?_⟩
      rw[(Blk.new w e cs').cell,←Array.getElem?_toList,f2]
      have:=flat_get (s:=s) (l.map (·.2)) i (ρ p.2) j u (λx hx=>by
       obtain⟨q,hq,rfl⟩:=List.mem_map.1 hx
       exact hsz q hq) (by simp[l,h1]) hj
      rw[Nat.zero_mul,List.take_zero,List.nil_append,Nat.zero_add,Nat.zero_add,List.getElem?_append_left (List.getElem?_eq_some_iff.1 this).1]
      exact this
    ·subst hr;exact hs.elim
   ·subst hr;exact hs.elim
  ·subst hr;exact hs.elim
 ·subst hr;exact hs.elim
def copyR [Fz] (P:Program) (T T':TypeId) (a b:SV) (own:Nat->Hl) (h:Hint):Res:=match elemOf P T,elemOf P T',hintE h,a with
  | some (_, s), some _, some E', .own k i => match srcOf s b own, (own k).gs i with
    | some (E2, m, ks, sds), (some (.row e' s' E n), sd) => if s = s' then (match putH (own k) i (.row e' s' E' n) h with
      | some (c2,sd2)=>⟨.ex (.int .i64 ((m:Nat):Int)),[m<=n,∀j,j<n->m<=j->E' j=E j,∀j,j<m->conj (SV.le (E2 j) (E' j))]++(sds++(sd++sd2)),[(k,c2)],k::ks⟩
      | none=>bad) else bad
    | _,_=>bad
  | _,_,_,_=>bad
theorem snd_copy [Fz]{T T':TypeId}{hi:Hint}{own':Nat->Hl}(H:Hp M F w0 own η w)(h:o.op=.call {callee:=.builtin .copy,args:=#[x,y],argTypes:=#[T,T']})(hx:a.R η (Av F own η) w (ρ x))(hy:b.R η (Av F own η) w (ρ y)){r:Res}(hr:copyR P T T' a b own' hi=r)(ho:∀k∈r.rd,own k=own' k)(hs:conj r.side):Snd P o ρ M F w0 own η w r:=by
 have exec:∀v w',(Builtin.copy_ #[T,T'] o.type #[ρ x,ρ y]).run P w=.ok v w'->(execOp ρ o).run P w=.ok (.value v) w':=λv w' e=>by unfold execOp;rw[h];simp[resolve,invoke,builtin,e]
 unfold copyR at hr
 split at hr
 ·rename_i e s es2 E' k i hT hT' _
  obtain⟨hu,i0,hi0,hz0⟩:=xS hT
  obtain⟨hu2,_⟩:=xS hT'
  split at hr
  ·rename_i E2 m ks sds e' s' E n sd hsrc hob
   split at hr
   ·rename_i hes
    subst hes
    split at hr
    rotate_left
    ·subst hr;exact hs.elim
    rename_i c2 sd2 hput
    subst hr
    obtain⟨hs,hsds⟩:=zD hs
    obtain⟨hsds,hsd⟩:=zD hsds
    obtain⟨hsd,hsd2⟩:=zD hsd
    obtain⟨hm,hE1,hE2⟩:=hs
    have hkk:own k=own' k:=ho k (by simp)
    obtain⟨news,hS,hel⟩:=src_ok H hsrc hsds (λk' hk'=>ho k' (List.mem_cons_of_mem _ hk')) hy hu2
    rw[←hkk] at hob hput
    have hob:=xG hob hsd
    obtain⟨hd,he,hok⟩:=H.ob k i _ hob
    have hx1:=hx.1
    obtain⟨A0,c,rfl,h1,h2,hT0,h3⟩:=hok
    rw[hx1] at he
    have ex:=Option.some.inj he
    have he':η k i=some (.slice A0 n c):=by rw[hx1];exact he
    have hnl:=hS.newsLen
    have hmin:Nat.min m n=m:=Nat.min_eq_left hm
    have hlen:=hS.len w
    have hcel:=hS.cells
    rcases h3 with⟨rfl,rfl,rfl⟩ | ⟨g,cs,rfl,hB,hcs,hel0⟩
    ·obtain rfl:m=0:=by omega
     have hrun:(Builtin.copy_ #[T,T'] o.type #[.slice none 0 0,ρ y]).run P w=.ok (goInt 0) w:=by
      simp[Builtin.copy_,run_underlying hu,hlen,sizeOf,typeInfo,hi0,hz0,hcel]
     have e1:=exec _ _ (by rw[ex];exact hrun)
     obtain⟨p1,p2⟩:=H.change (putH_ok hput hsd2) (w':=w) hob he' rfl (λ_ _=>rfl) rfl rfl rfl (λ_=>⟨none,0,rfl,Nat.le_refl _,Nat.zero_le _,hT0,.inl ⟨rfl,rfl,rfl⟩⟩)
     unfold Snd Yld
     rw[e1]
     exact⟨η,p1,p2,rfl⟩
    ·have hmc:m*s<=s*c:=by
      have:=Nat.mul_le_mul_left s (show m<=c by omega)
      rw[Nat.mul_comm m s];exact this
     have hst:=run_storeCells_cells (P:=P) g 0 news 0 w (λj hj=>by rw[hB.cell,Array.getElem?_eq_getElem zo];rfl) (λj hj=>hB.frozen _) hS.one
     have hrun:(Builtin.copy_ #[T,T'] o.type #[.slice (some ⟨g,0,none⟩) n c,ρ y]).run P w=.ok (goInt m) (w.setCells g 0 news):=by
      simp only[Nat.add_zero] at hst
      simp[Builtin.copy_,run_underlying hu,hlen,sizeOf,typeInfo,hi0,hz0,hcel,hmin,hst]
     obtain⟨cs',hb',hcs'⟩:=jV news 0 hB zo
     refine snd_change (v:=goInt m) H (exec _ _ (by rw[ex];exact hrun)) (.inr rfl) (λ_ _=>rfl) hob he' rfl (putH_ok hput hsd2) (put_setCells hB) λK=>⟨_,c,rfl,h1,h2,hT0,.inr ⟨g,cs',rfl,hb',?_,λt ht=>?_⟩⟩
     ·have:=congrArg List.length hcs'
      simp only[List.length_append,List.length_take,List.length_drop,Array.length_toList] at this
      omega
     ·have hget:∀z,cs'[z]?=if z<news.length then news[z]? else cs[z]?:=λz=>by
       have:=splice_get (l:=cs.toList) (m:=news) (a:=0) (i:=z) (by rw[Array.length_toList (xs:=cs)];omega)
       rw[←Array.getElem?_toList,hcs',this]
       simp
      rcases Nat.lt_or_ge t m with htm | htm
      ·obtain⟨e0,q1,q2,q3⟩:=hel t htm
       refine⟨e0,q1,SV.keep K _ _ (SV.le_ok _ _ _ (hE2 t htm) q2),λz u hz=>?_⟩
       have:=q3 z u hz
       rw[hb'.cell,hget,if_pos (List.getElem?_eq_some_iff.1 this).1]
       exact this
      ·obtain⟨e0,q1,q2,q3⟩:=hel0 t ht
       refine⟨e0,q1,by rw[hE1 t ht htm];exact SV.keep K _ _ q2,λz u hz=>?_⟩
       have:=q3 z u hz
       rw[hB.cell] at this
       have h4:=Nat.mul_le_mul_left s htm
       rw[Nat.mul_comm s m] at h4
       rw[hb'.cell,hget,if_neg zo]
       exact this
   ·subst hr;exact hs.elim
  ·subst hr;exact hs.elim
 ·subst hr;exact hs.elim
end
end Go.Proofs.YtjhfkgpjcdbjaaaGreatDoor
