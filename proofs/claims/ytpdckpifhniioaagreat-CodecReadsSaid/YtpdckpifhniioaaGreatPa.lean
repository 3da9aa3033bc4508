/- Part 1 of what CodecReads rests on. -/
import Derived.WalkKit
import Derived.Orders
import Derived.Deep.Quiet
import Derived.Below
section
set_option linter.unusedVariables false
namespace Go.Proofs.YtpdckpifhniioaaGreat
open Go.RowKit
section
variable {P:Program} {ops:Array Oper} {Q:Exit→Act→World→Prop}
def left (listed:Array Bool):Nat:=listed.count false
theorem left_set (listed:Array Bool) (i:Nat) (h:listed.getD i true=false):left (listed.setIfInBounds i true)+1≤left listed:=by
 have hi:i<listed.size:=by
  by_cases hc:i<listed.size
  ·exact hc
  ·simp[Array.getD,hc] at h
 have hv:listed[i]=false:=by simpa [Array.getD,hi] using h
 unfold left
 rw[Array.setIfInBounds,dif_pos hi,Array.count_set,hv]
 have:0<listed.count false:=Array.count_pos_iff.2 (hv▸Array.getElem_mem hi)
 simp
 omega
theorem ready_none (listed:Array Bool) (md:Region.Mode) (hs:listed.size=ops.size) (h:left listed=0):Region.ready md ops listed=[]:=by
 unfold Region.ready
 rw[List.filter_eq_nil_iff]
 intro i hi
 have hi':i<listed.size:=by simpa [hs] using hi
 have:listed[i]=true:=by
  cases hb:listed[i] with
  |true=>rfl
  |false=>
   have:0<listed.count false:=Array.count_pos_iff.2 (hb▸Array.getElem_mem hi')
   unfold left at h;omega
 simp[Array.getD,hi',this]
theorem wpAny_inv (md:Region.Mode) (Inv:Array Bool→Act→World→Prop)
  (hstep:∀listed a w i,listed.size=ops.size→i∈Region.ready md ops listed→Inv listed a w→wpOp P ops Q i (fun a' w'=>Inv (listed.setIfInBounds i true) a' w') a w)
  (hend:∀listed a w,listed.size=ops.size→Region.ready md ops listed=[]→Inv listed a w→Q .normal a w) :
  ∀(fuel:Nat) (listed:Array Bool) (a:Act) (w:World),listed.size=ops.size→left listed≤fuel→Inv listed a w→wpAny P md ops Q fuel listed a w
 |0,listed,a,w,hs,hl,hI=>by
  have hr:=ready_none (ops:=ops) listed md hs (by omega)
  exact ⟨hr,hend listed a w hs hr hI⟩
 |fuel+1,listed,a,w,hs,hl,hI=>by
  refine ⟨fun hr=>hend listed a w hs hr hI,fun i hi=>wpOp_mono (fun a' w' h'=>?_) (hstep listed a w i hs hi hI)⟩
  refine wpAny_inv md Inv hstep hend fuel _ a' w' (by simpa using hs) ?_ h'
  have hu:listed.getD i true=false:=by
   have:=(List.mem_filter.1 hi).2
   simp only[Bool.and_eq_true] at this
   simpa using this.1
  have:=left_set listed i hu
  omega
theorem wp_region_inv {id:Nat} {a:Act} {w:World} (hm:P.follows .mixedOrders=true) (Inv:(Nat→Bool)→Act→World→Prop)
  (h0:Inv (fun _=>false) a w.drew)
  (hstep:∀(D:Nat→Bool) a w i o,ops[i]? = some o→D i=false→(∀e∈o.after,Region.binds .any e=true→D e.on=true)→Inv D a w→
   if Region.wanted o (yielded ops a.tmps) then o.wp P a w (fun a' w'=>Inv (fun j=>if j=i then true else D j) a' w') Q else Inv (fun j=>if j=i then true else D j) (a.put o.dst undef) w)
  (hend:∀(D:Nat→Bool) a w,(∀i,i<ops.size→(∃o,ops[i]? = some o∧∃e∈o.after,Region.binds .any e=true∧D e.on=false)∨D i=true)→Inv D a w→Q .normal a w) :
  (Code.region id ops true).wp P Q a w:=by
 refine wp_region_any hm (wpAny_inv .any (fun listed a w=>Inv (fun i=>listed.getD i false) a w) ?_ ?_ ops.size _ a _ (by simp) (by simp[left]) ?_)
 ·intro listed a w i hs hi hI
  have hr:=(List.mem_filter.1 hi)
  have hlt:i<ops.size:=by simpa using hr.1
  have hr2:=hr.2
  simp only[Bool.and_eq_true] at hr2
  have ho:ops[i]? = some ops[i]:=Array.getElem?_eq_getElem hlt
  have hli:i<listed.size:=by omega
  have hDi:listed.getD i false=false:=by
   have:=hr2.1
   simpa [Array.getD,hli] using this
  have hdeps:∀e∈ops[i].after,Region.binds .any e=true→listed.getD e.on false=true:=by
   have:=hr2.2
   rw[ho] at this
   simp only[Option.map_some,Option.getD_some] at this
   intro e he hb
   obtain ⟨k,hk,rfl⟩:=Array.mem_iff_getElem.1 he
   have:=(Array.all_eq_true.1 this) k hk
   rw[hb] at this
   simpa using this
  have hD:(fun j=>(listed.setIfInBounds i true).getD j false)=fun j=>if j=i then true else listed.getD j false:=by
   funext j
   by_cases hj:j=i
   ·subst hj;simp[Array.getD,hli]
   ·rw[if_neg hj,Array.getD_eq_getD_getElem?,Array.getD_eq_getD_getElem?,Array.getElem?_setIfInBounds_ne (Ne.symm hj)]
  have h:=hstep (fun j=>listed.getD j false) a w i ops[i] ho hDi hdeps hI
  unfold wpOp
  simp only[ho]
  rw[hD]
  split
  ·rename_i hw;rw[if_pos hw] at h;exact .inl h
  ·rename_i hw;rw[if_neg hw] at h;exact h
 ·intro listed a w hs hr hI
  refine hend (fun i=>listed.getD i false) a w (fun i hi=>?_) hI
  have hli:i<listed.size:=by omega
  have:=(List.filter_eq_nil_iff.1 hr) i (by simpa using hi)
  have ho:ops[i]? = some ops[i]:=Array.getElem?_eq_getElem hi
  rw[ho] at this
  simp only[Option.map_some,Option.getD_some,Bool.and_eq_true,not_and] at this
  cases hd:listed.getD i false with
  |true=>exact .inr rfl
  |false=>
   left
   have h1:(!listed.getD i true)=true:=by simpa [Array.getD,hli] using hd
   have h2:=this h1
   refine ⟨_,ho,?_⟩
   rw[Array.all_eq_true] at h2
   simp only[Classical.not_forall] at h2
   obtain ⟨k,hk,hne⟩:=h2
   refine ⟨_,Array.getElem_mem hk,?_⟩
   simpa using hne
 ·have:(fun i=>(Array.replicate ops.size false).getD i false)=fun _=>false:=by
   funext i
   rw[Array.getD_eq_getD_getElem?,Array.getElem?_replicate]
   split<;>rfl
  rw[this]
  exact h0
theorem wp_region_invU {id:Nat} {l:List Oper} {a:Act} {w:World} (hm:P.follows .mixedOrders=true) (hg:(l.all fun o=>o.guard.isNone)=true) (Inv:(Nat→Bool)→Act→World→Prop)
  (h0:Inv (fun _=>false) a w.drew)
  (hstep:∀(D:Nat→Bool) a w i o,l[i]? = some o→D i=false→(∀e∈o.after,Region.binds .any e=true→D e.on=true)→Inv D a w→
   o.wp P a w (fun a' w'=>Inv (fun j=>if j=i then true else D j) a' w') Q)
  (hend:∀(D:Nat→Bool) a w,(∀i,i<l.length→(∃o,l[i]? = some o∧∃e∈o.after,Region.binds .any e=true∧D e.on=false)∨D i=true)→Inv D a w→Q .normal a w) :
  (Code.region id l.toArray true).wp P Q a w:=by
 refine wp_region_inv hm Inv h0 (fun D a w i o ho hD hd hI=>?_) (fun D a w hD hI=>hend D a w (fun i hi=>by simpa using hD i (by simpa using hi)) hI)
 have ho:l[i]? = some o:=by simpa using ho
 have hgo:o.guard=none:=by
  have:=(List.all_eq_true.1 hg) o (List.mem_of_getElem? ho)
  simpa using this
 have hw:Region.wanted o (yielded l.toArray a.tmps)=true:=by unfold Region.wanted;rw[hgo]
 rw[if_pos hw]
 exact hstep D a w i o ho hD hd hI
end
end Go.Proofs.YtpdckpifhniioaaGreat
end
section
set_option linter.unusedVariables false
namespace Go.Proofs.YtpdckpifhniioaaGreat
open Go.RowKit
section
variable {P:Program} {C:World→Prop}
def lowers (ops:Array Oper):Bool:=(List.range ops.size).all fun i=>((ops[i]?).map fun o=>o.after.all fun e=>decide (e.on<i)).getD true
theorem ready_of_unlisted {ops:Array Oper} (hL:lowers ops=true) (listed:Array Bool) (hs:listed.size=ops.size) {i:Nat} (hi:i<ops.size) (hu:listed.getD i false=false):Region.ready .any ops listed≠[]:=by
 have key:∀n i,i<n→i<ops.size→listed.getD i false=false→Region.ready .any ops listed≠[]:=by
  intro n
  induction n with
  |zero=>intro i h;omega
  |succ n ih=>
   intro i hin hi hu hr
   have hli:i<listed.size:=by omega
   have ho:ops[i]? = some ops[i]:=Array.getElem?_eq_getElem hi
   have:=(List.filter_eq_nil_iff.1 hr) i (by simpa using hi)
   rw[ho] at this
   simp only[Option.map_some,Option.getD_some,Bool.and_eq_true,not_and] at this
   have h1:(!listed.getD i true)=true:=by simpa [Array.getD,hli] using hu
   have h2:=this h1
   rw[Array.all_eq_true] at h2
   simp only[Classical.not_forall] at h2
   obtain ⟨k,hk,hne⟩:=h2
   have hlow:=(List.all_eq_true.1 hL) i (by simpa using hi)
   rw[ho] at hlow
   simp only[Option.map_some,Option.getD_some] at hlow
   have hlt:=(Array.all_eq_true.1 hlow) k hk
   have hlt':(ops[i].after[k]).on<i:=by simpa using hlt
   have hun:listed.getD (ops[i].after[k]).on false=false:=by
    cases hb:listed.getD (ops[i].after[k]).on false with
    |false=>rfl
    |true=>exact absurd (by rw[hb];simp) hne
   exact ih _ (by omega) (by omega) hun hr
 exact key (i+1) i (by omega) hi hu
def lastOp:List Oper→Oper
 |[]=>{dst:=none,op:=.move (.const (.bool false)),type:=0,pos:= "",after:=#[],guard:=none}
 |[o]=>o
 |_::o::os=>lastOp (o::os)
theorem lastOp_spec:∀(l:List Oper),l≠[]→l.getLast? = some (lastOp l)
 |[],h=>absurd rfl h
 |[o],_=>rfl
 |_::o::os,_=>by rw[List.getLast?_cons_cons];exact lastOp_spec (o::os) (by simp)
theorem all_done {l:List Oper} (hL:lowers l.toArray=true) {D:Nat→Bool}
  (hD:∀i,i<l.length→(∃o,l[i]? = some o∧∃e∈o.after,Region.binds .any e=true∧D e.on=false)∨D i=true):∀i,i<l.length→D i=true:=by
 intro i
 induction i using Nat.strongRecOn with
 |_ i ih=>
  intro hi
  rcases hD i hi with ⟨o,ho,e,he,_,hf⟩|h
  ·have hlow:=(List.all_eq_true.1 hL) i (by simpa using hi)
   have ho':l.toArray[i]? = some o:=by simpa using ho
   rw[ho'] at hlow
   simp only[Option.map_some,Option.getD_some] at hlow
   obtain ⟨k,hk,rfl⟩:=Array.mem_iff_getElem.1 he
   have h1:=(Array.all_eq_true.1 hlow) k hk
   have h2:(o.after[k]).on<i:=by simpa using h1
   rw[ih _ h2 (by omega)] at hf
   cases hf
  ·exact h
end
end Go.Proofs.YtpdckpifhniioaaGreat
end
section
set_option linter.unusedVariables false
namespace Go.Proofs.YtpdckpifhniioaaGreat
open Go.RowKit
def Grow (x y:World):Prop:=Below x.heap.size x y
theorem Grow.refl (x:World):Grow x x:=Below.refl _ _
theorem Grow.trans {x y z:World} (h:Grow x y) (k:Grow y z):Grow x z:=Below.trans h (Below.mono k h.size)
theorem Grow.drew (x:World):Grow x x.drew:=(Below.refl _ _).drew
theorem Grow.alloc (x:World) (o:Obj):Grow x (x.alloc o):=(Below.refl _ _).alloc (Nat.le_refl _) o
theorem Grow.block {x y:World} (h:Grow x y) {k:Nat} {o:Obj} (hk:x.heap[k]? = some o):y.heap[k]? = some o:=
 (Below.block h k (Array.getElem?_eq_some_iff.1 hk).1).trans hk
def Al (x:World) (F:World→Prop):Prop:=∀y,Grow x y→F y
theorem Al.mono {x y:World} {F:World→Prop} (h:Al x F) (g:Grow x y):Al y F:=fun z hz=>h z (g.trans hz)
theorem Al.now {x:World} {F:World→Prop} (h:Al x F):F x:=h x (Grow.refl x)
theorem Al.of {x:World} {p:Prop} (h:p):Al x (fun _=>p):=fun _ _=>h
theorem Act.put_put (a:Act) (d:Option Tmp) (u v:Value):(a.put d u).put d v=a.put d v:=by
 cases d with
 |none=>rfl
 |some d=>simp[Act.put]
theorem Act.put_comm (a:Act) (d e:Option Tmp) (hne:d=none∨e=none∨d≠e) (u v:Value):(a.put d u).put e v=(a.put e v).put d u:=by
 cases d with
 |none=>rfl
 |some d=>
  cases e with
  |none=>rfl
  |some e=>
   have h:d≠e:=by rcases hne with h|h|h<;>first|cases h|(intro e';exact h (by rw[e']))
   simp only[Act.put]
   rw[Array.setIfInBounds_comm _ _ h]
theorem Act.put_self (a:Act) (d:Option Tmp):a.put d ((d.map fun t=>a.tmps.getD t undef).getD undef)=a:=by
 cases d with
 |none=>rfl
 |some d=>
  simp only[Act.put,Option.map_some,Option.getD_some]
  have:a.tmps.setIfInBounds d (a.tmps.getD d undef)=a.tmps:=by
   apply Array.ext
   ·simp
   ·intro i h1 h2
    rw[Array.getElem_setIfInBounds (by simpa using h2)]
    split
    ·rename_i h;subst h;simp[Array.getD,h2]
    ·rfl
  rw[this]
def fill:List Oper→(Nat→Value)→Act→Act
 |[],_,a=>a
 |o::l,u,a=>fill l (fun k=>u (k+1)) (a.put o.dst (u 0))
def updv (u:Nat→Value) (i:Nat) (v:Value):Nat→Value:=fun k=>if k=i then v else u k
def apart (d e:Option Tmp):Bool:=match d,e with|some d,some e=>d != e|_,_=>true
def distinct:List Oper→Bool
 |[]=>true
 |o::l=>(l.all fun p=>apart o.dst p.dst)&&distinct l
theorem apart_ne {d e:Option Tmp} (h:apart d e=true):d=none∨e=none∨d≠e:=by
 cases d with
 |none=>exact .inl rfl
 |some d=>
  cases e with
  |none=>exact .inr (.inl rfl)
  |some e=>exact .inr (.inr (by intro he;cases he;simp[apart] at h))
theorem apart_ne' {d e:Option Tmp} (h:apart d e=true):e=none∨d=none∨e≠d:=by
 rcases apart_ne h with h|h|h
 ·exact .inr (.inl h)
 ·exact .inl h
 ·exact .inr (.inr (Ne.symm h))
theorem fill_put:∀(l:List Oper) (u:Nat→Value) (a:Act) (d:Option Tmp) (v:Value),(l.all fun p=>apart d p.dst)=true→(fill l u a).put d v=fill l u (a.put d v)
 |[],_,_,_,_,_=>rfl
 |o::l,u,a,d,v,h=>by
  simp only[List.all_cons,Bool.and_eq_true] at h
  simp only[fill]
  rw[fill_put l _ _ d v h.2,Act.put_comm _ _ _ (apart_ne' h.1)]
theorem fill_congr:∀(l:List Oper) (u v:Nat→Value) (a:Act),(∀i,i<l.length→u i=v i)→fill l u a=fill l v a
 |[],_,_,_,_=>rfl
 |o::l,u,v,a,h=>by
  simp only[fill]
  rw[h 0 (by simp)]
  exact fill_congr l _ _ _ fun i hi=>h (i+1) (by simp;omega)
theorem fill_upd:∀(l:List Oper) (u:Nat→Value) (a:Act) (i:Nat) (o:Oper) (v:Value),distinct l=true→l[i]? = some o→(fill l u a).put o.dst v=fill l (updv u i v) a
 |[],_,_,i,_,_,_,h=>by simp at h
 |p::l,u,a,0,o,v,hd,h=>by
  simp at h;subst h
  simp only[distinct,Bool.and_eq_true] at hd
  simp only[fill]
  rw[fill_put _ _ _ _ _ hd.1,Act.put_put]
  have:updv u 0 v 0=v:=by simp[updv]
  rw[this]
  exact fill_congr _ _ _ _ fun i hi=>by simp[updv]
 |p::l,u,a,i+1,o,v,hd,h=>by
  simp only[distinct,Bool.and_eq_true] at hd
  simp only[fill]
  rw[fill_upd l _ _ i o v hd.2 (by simpa using h)]
  have:updv u (i+1) v 0=u 0:=by simp[updv]
  rw[this]
  exact fill_congr _ _ _ _ fun j hj=>by simp[updv]
theorem fill_start:∀(l:List Oper) (a:Act),∃u,fill l u a=a
 |[],a=>⟨fun _=>undef,rfl⟩
 |o::l,a=>by
  obtain ⟨u,hu⟩:=fill_start l a
  refine ⟨fun k=>match k with|0=>(o.dst.map fun t=>a.tmps.getD t undef).getD undef|k+1=>u k,?_⟩
  show fill l (fun k=>u k) (a.put o.dst _)=a
  rw[Act.put_self]
  exact hu
def waitsOn (o:Oper) (j:Nat):Bool:=o.after.any fun e=>e.on==j&&Region.binds .any e
section
variable {P:Program}
theorem wp_region_grow {id:Nat} {l:List Oper} {a:Act} {w:World} {Q:Exit→Act→World→Prop} (hm:P.follows .mixedOrders=true) (hL:lowers l.toArray=true) (hd:distinct l=true) (T:Nat→Value→World→Prop)
  (hstep:∀i o,l[i]? = some o→∀u x,Grow w x→(∀j,waitsOn o j=true→Al x (T j (u j)))→
   if Region.wanted o (yielded l.toArray (fill l u a).tmps) then o.wp P (fill l u a) x (fun a' x'=>∃v,a'=(fill l u a).put o.dst v∧Grow x x'∧Al x' (T i v)) Q else Al x (T i undef))
  (hend:∀u x,Grow w x→(∀i,i<l.length→Al x (T i (u i)))→Q .normal (fill l u a) x):(Code.region id l.toArray true).wp P Q a w:=by
 refine wp_region_inv hm (fun D a' x=>Grow w x∧∃u,a'=fill l u a∧∀i,i<l.length→D i=true→Al x (T i (u i))) ?_ ?_ ?_
 ·obtain ⟨u,hu⟩:=fill_start l a
  exact ⟨Grow.drew w,u,hu.symm,fun i _ h=>by cases h⟩
 ·rintro D a' x i o ho hD hdep ⟨hg,u,rfl,hT⟩
  have ho':l[i]? = some o:=by simpa using ho
  have hlow:∀j,waitsOn o j=true→j<l.length:=by
   intro j hj
   obtain ⟨k,hk,he⟩:=Array.any_eq_true.1 hj
   simp only[Bool.and_eq_true,beq_iff_eq] at he
   have hi:i<l.length:=(List.getElem?_eq_some_iff.1 ho').1
   have h1:=(List.all_eq_true.1 hL) i (by simpa using hi)
   rw[ho] at h1
   simp only[Option.map_some,Option.getD_some] at h1
   have h2:=(Array.all_eq_true.1 h1) k hk
   have h3:(o.after[k]).on<i:=by simpa using h2
   omega
  have h:=hstep i o ho' u x hg (fun j hj=>by
   refine hT j (hlow j hj) ?_
   obtain ⟨k,hk,he⟩:=Array.any_eq_true.1 hj
   simp only[Bool.and_eq_true,beq_iff_eq] at he
   have:=hdep _ (Array.getElem_mem hk) he.2
   rwa [he.1] at this)
  have fin:∀v x',Grow x x'→Al x' (T i v)→Grow w x'∧∃u',(fill l u a).put o.dst v=fill l u' a∧∀j,j<l.length→(if j=i then true else D j)=true→Al x' (T j (u' j)):=by
   intro v x' hgx hTi
   refine ⟨hg.trans hgx,updv u i v,fill_upd l u a i o v hd ho',fun j hj hDj=>?_⟩
   unfold updv
   split
   ·rename_i e;subst e;exact hTi
   ·rename_i e;rw[if_neg e] at hDj;exact (hT j hj hDj).mono hgx
  split
  ·rename_i hw
   rw[if_pos hw] at h
   refine Oper.wp_mono ?_ h
   rintro a'' x' ⟨v,rfl,hgx,hTi⟩
   exact fin v x' hgx hTi
  ·rename_i hw
   rw[if_neg hw] at h
   exact fin undef x (Grow.refl x) h
 ·rintro D a' x hD ⟨hg,u,rfl,hT⟩
  have hall:=all_done hL (D:=D) (fun i hi=>by simpa using hD i (by simpa using hi))
  exact hend u x hg fun i hi=>hT i hi (hall i hi)
variable {o:Oper} {a:Act} {x:World} {Q:Exit→Act→World→Prop} {K:Value→World→Prop}
theorem gw_val {v:Value} {x':World} (h:(execOp a.eval o).run P x=.ok (.value v) x') (hg:Grow x x') (hT:Al x' (K v)) :
  o.wp P a x (fun a' x'=>∃v,a'=a.put o.dst v∧Grow x x'∧Al x' (K v)) Q:=by
 unfold Oper.wp
 rw[h]
 exact ⟨v,rfl,hg,hT⟩
end
end Go.Proofs.YtpdckpifhniioaaGreat
end
