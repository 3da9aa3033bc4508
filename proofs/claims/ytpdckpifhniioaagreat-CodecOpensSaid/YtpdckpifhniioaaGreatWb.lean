/- Part 2 of what CodecOpens rests on. -/
import Derived.WalkKit
import Derived.Orders
import Derived.Below
import Derived.Deep.MidRow
import Derived.Laws.Rows
import Derived.Laws.IdiomStrings
import Derived.Laws.Slices
import Derived.Laws.DeepStrings4
import Derived.Laws.AppendOwn
import Derived.Deep.AppendSrc
import Derived.Test.YtpdckpifhniioaaGreatWa
set_option maxRecDepth 100000
set_option maxHeartbeats 8000000
set_option linter.unusedVariables false
set_option linter.unusedSimpArgs false
namespace Go.Proofs.YtpdckpifhniioaaGreat
open Go.RowKit
section
namespace Ab
inductive Leaf where
 |v (x:Value)
 |p (id off:Nat)
 |f (fn:Nat) (caps:List (Nat×Nat))
 |s (id off len:Nat)
 |o (id len:Nat)
 |u
inductive Cp where
 |l (x:Leaf)
 |agg (xs:List Leaf)
inductive SV where
 |u
 |c (x:Cp)
 |tup (xs:List Cp)
 |g (b:Bool) (x:Cp)
structure Bt where
 b:Nat->Option Nat
 c:Nat->Option Nat
instance : CoeFun Bt fun _ => Nat -> Option Nat := ⟨Bt.b⟩
def r9 {α β:Type} (R:α->β->Prop):List α->List β->Prop
 |[],[]=>True
 |a::as,b::bs=>R a b/\r9 R as bs
 |_,_=>False
section
variable {α β γ:Type} {R S:α->β->Prop}
theorem r9.length:∀ {l:List α} {m:List β},r9 R l m->l.length=m.length
 |[],[],_=>rfl
 |_::_,_::_,h=>by simp[r9.length h.2]
theorem r9.mono (hh:∀a b,R a b->S a b):∀ {l:List α} {m:List β},r9 R l m->r9 S l m
 |[],[],_=>trivial
 |_::_,_::_,h=>⟨hh _ _ h.1,r9.mono hh h.2⟩
theorem r9.get:∀ {l:List α} {m:List β} {i:Nat} {a:α},r9 R l m->l[i]? = some a->∃b,m[i]? = some b/\R a b
 |[],[],i,a,_,h=>by simp at h
 |a::as,b::bs,0,a',h,e=>by simp at e;subst e;exact ⟨b,by simp,h.1⟩
 |a::as,b::bs,i+1,a',h,e=>by simpa using r9.get h.2 (by simpa using e)
theorem r9.append:∀ {l l':List α} {m m':List β},r9 R l m->r9 R l' m'->r9 R (l++l') (m++m')
 |[],_,[],_,_,h=>h
 |_::_,_,_::_,_,h,h'=>⟨h.1,r9.append h.2 h'⟩
theorem r9.take:∀ {l:List α} {m:List β} (n:Nat),r9 R l m->r9 R (l.take n) (m.take n)
 |_,_,0,_=>by simp[r9]
 |[],[],n+1,_=>by simp[r9]
 |_::_,_::_,n+1,h=>⟨h.1,r9.take n h.2⟩
theorem r9.drop:∀ {l:List α} {m:List β} (n:Nat),r9 R l m->r9 R (l.drop n) (m.drop n)
 |_,_,0,h=>h
 |[],[],n+1,_=>by simp[r9]
 |_::_,_::_,n+1,h=>r9.drop n h.2
theorem r9.set:∀ {l:List α} {m:List β} (n:Nat) {a:α} {b:β},r9 R l m->R a b->r9 R (l.set n a) (m.set n b)
 |[],[],_,_,_,_,_=>by simp[r9]
 |_::_,_::_,0,_,_,h,k=>⟨k,h.2⟩
 |_::_,_::_,n+1,_,_,h,k=>⟨h.1,r9.set n h.2 k⟩
theorem r9.mem:∀ {l:List α} {m:List β} {b:β},r9 R l m->b∈m->∃a,a∈l/\R a b
 |[],[],_,_,h=>by cases h
 |a::as,b::bs,c,h,hm=>by
  cases hm with
  |head=>exact ⟨a,by simp,h.1⟩
  |tail _ hm=>obtain ⟨x,hx,hr⟩:=r9.mem h.2 hm;exact ⟨x,by simp[hx],hr⟩
end
def K1 (x:Value):Bool:=x.oneCell'
def Leaf.den (β:Bt):Leaf->Value->Prop
 |.v x,y=>y=x/\K1 x=true
 |.p id off,y=>∃b,β id=some b/\y=.pointer (some ⟨b,off,none⟩)
 |.f fn caps,y=>∃cs:List Value,r9 (fun (c:Nat×Nat) z=>∃b,β c.1=some b/\z=.pointer (some ⟨b,c.2,none⟩)) caps cs/\y=.func (.func fn) #[] cs.toArray
 |.s id off len,y=>∃b cap,β id=some b/\len<=cap/\y=.slice (some ⟨b,off,none⟩) len cap
 |.o id len,y=>(len=0/\β.c id=some 0/\y=.slice none 0 0)\/∃b cap,β id=some b/\β.c id=some cap/\len<=cap/\y=.slice (some ⟨b,0,none⟩) len cap
 |.u,y=>K1 y=true
def Cp.den (β:Bt):Cp->Value->Prop
 |.l x,y=>x.den β y
 |.agg xs,y=>∃ys:List Value,y=.agg ys.toArray/\r9 (Leaf.den β) xs ys
def SV.den (β:Bt):SV->Value->Prop
 |.u,_=>True
 |.c x,y=>x.den β y
 |.tup xs,y=>∃ys:List Value,y=.tuple ys.toArray/\r9 (Cp.den β) xs ys
 |.g b x,y=>(b=true->x.den β y)/\(b=false->y=undef)
theorem Leaf.leafy_of {β:Bt}:∀ {x:Leaf} {y:Value},x.den β y->K1 y=true
 |.v x,y,h=>by obtain ⟨rfl,h⟩:=h;exact h
 |.p _ _,y,h=>by obtain ⟨b,_,rfl⟩:=h;rfl
 |.f _ _,y,h=>by obtain ⟨cs,_,rfl⟩:=h;rfl
 |.s _ _ _,y,h=>by obtain ⟨b,cap,_,_,rfl⟩:=h;rfl
 |.o _ _,y,h=>by rcases h with ⟨_,_,rfl⟩|⟨b,cap,_,_,_,rfl⟩<;>rfl
 |.u,y,h=>h
structure Ext (β β':Bt):Prop where
 b:∀id b,β id=some b->β' id=some b
 c:∀id v,β.c id=some v->β'.c id=some v
theorem Ext.refl (β:Bt):Ext β β:=⟨fun _ _ h=>h,fun _ _ h=>h⟩
theorem Leaf.ext {β β':Bt} (h:Ext β β'):∀ {x:Leaf} {y:Value},x.den β y->x.den β' y
 |.v x,y,k=>k
 |.p _ _,y,⟨b,k,e⟩=>⟨b,h.b _ _ k,e⟩
 |.f _ _,y,⟨cs,k,e⟩=>⟨cs,k.mono fun _ _ ⟨b,q,r⟩=>⟨b,h.b _ _ q,r⟩,e⟩
 |.s _ _ _,y,⟨b,cap,k,e⟩=>⟨b,cap,h.b _ _ k,e⟩
 |.o _ _,y,k=>k.elim (fun ⟨e,q,r⟩=>.inl ⟨e,h.c _ _ q,r⟩) fun ⟨b,cap,k,q,e⟩=>.inr ⟨b,cap,h.b _ _ k,h.c _ _ q,e⟩
 |.u,y,k=>k
theorem Cp.ext {β β':Bt} (h:Ext β β'):∀ {x:Cp} {y:Value},x.den β y->x.den β' y
 |.l x,y,k=>Leaf.ext h (x:=x) k
 |.agg xs,y,⟨ys,e,k⟩=>⟨ys,e,k.mono fun _ _ q=>Leaf.ext h q⟩
theorem SV.ext {β β':Bt} (h:Ext β β'):∀ {x:SV} {y:Value},x.den β y->x.den β' y
 |.u,y,k=>trivial
 |.c x,y,k=>Cp.ext h (x:=x) k
 |.tup xs,y,⟨ys,e,k⟩=>⟨ys,e,k.mono fun _ _ q=>Cp.ext h q⟩
 |.g b x,y,⟨k1,k2⟩=>⟨fun e=>Cp.ext h (x:=x) (k1 e),k2⟩
def Cp.cells:Cp->List Leaf
 |.l x=>[x]
 |.agg xs=>xs
theorem Cp.den_cells {β:Bt}:∀ {x:Cp} {y:Value},x.den β y->r9 (Leaf.den β) x.cells y.cells.toList
 |.l x,y,h=>by
  have hl:=Leaf.leafy_of (x:=x) h
  have:y.cells.toList=[y]:=by cases y<;>first|rfl|(simp[K1,Value.oneCell'] at hl)
  rw[this];exact ⟨h,trivial⟩
 |.agg xs,y,⟨ys,e,k⟩=>by subst e;simpa [Value.cells,Cp.cells] using k
theorem gX {β:Bt} {xs:List Leaf} {ys:List Value} (h:r9 (Leaf.den β) xs ys):∀v∈ys,v.oneCell'=true:=by
 intro v hv
 obtain ⟨a,_,ha⟩:=h.mem hv
 exact Leaf.leafy_of ha
inductive BT where
 |t (n:Nat)
 |r (n sz id:Nat)
 |y (n:Nat)
 |e (n:Nat)
 |x
 |q
instance (n : Nat) : OfNat BT n := ⟨.t n⟩
instance : Coe Nat BT := ⟨.t⟩
def BT.ty:BT->Nat
 |.t n=>n
 |.r n _ _=>n
 |.y n=>n
 |.e n=>n
 |.x=>0
 |.q=>0
def BT.nq:BT->Bool
 |.q=>false
 |_=>true
theorem BT.nq_spec:∀ {t:BT},t.nq=true->t≠.q
 |.t _,_=>fun h=>by cases h
 |.r _ _ _,_=>fun h=>by cases h
 |.y _,_=>fun h=>by cases h
 |.e _,_=>fun h=>by cases h
 |.x,_=>fun h=>by cases h
 |.q,h=>by cases h
def BT.fr (m:Nat):BT->Nat×Nat
 |.y _=>(m,m+1)
 |_=>(0,0)
def BT.room (β:Bt) (l m:Nat):BT->Prop
 |.t _=>True
 |.r _ sz id=>∃v,β.c id=some v/\v*sz<=m
 |.y _=>True
 |.e _=>l=m
 |.x=>True
 |.q=>False
theorem BT.room_ext {β β':Bt} {l m:Nat} (h:Ext β β'):∀ {t:BT},t.room β l m->t.room β' l m
 |.t _,_=>trivial
 |.r _ _ _,⟨v,k,q'⟩=>⟨v,h.c _ _ k,q'⟩
 |.y _,_=>trivial
 |.e _,h=>h
 |.x,_=>trivial
 |.q,h=>h
structure n6 where
 cs:List Leaf
 ty:BT
def QC (β:Bt) (x:World) (b:Nat) (cs:List Leaf):Prop:=∀i l,cs[i]? = some l->l=.u\/∃y,x.cell? ⟨b,i,none⟩=some y/\l.den β y
def y9 (β:Bt) (x:World) (b:Nat) (k:n6):Prop:=
 ((k.ty=.x/\k.cs=[])\/(k.ty=.q/\QC β x b k.cs))\/∃ys zs:List Value,x.heap[b]? = some (.cells (ys++zs).toArray k.ty.ty (k.ty.fr (ys++zs).length))/\r9 (Leaf.den β) k.cs ys/\k.ty.room β ys.length (ys++zs).length
theorem y9.ext {β β':Bt} {x x':World} {b:Nat} {k:n6} (h:y9 β x b k) (e:Ext β β') (hx:x'.heap[b]? = x.heap[b]?):y9 β' x' b k:=by
 rcases h with (h|⟨h,hq⟩)|⟨ys,zs,h1,h2,h3⟩
 ·exact .inl (.inl h)
 ·refine .inl (.inr ⟨h,fun i l hl=>(hq i l hl).imp id fun ⟨y,h1,h2⟩=>⟨y,?_,Leaf.ext e h2⟩⟩)
  simp only[World.cell?,hx] at h1⊢
  exact h1
 ·exact .inr ⟨ys,zs,hx.trans h1,h2.mono fun _ _ q=>Leaf.ext e q,BT.room_ext e h3⟩
theorem y9.cellU {β:Bt} {x:World} {b:Nat} {k:n6} (h:y9 β x b k) {i:Nat} {l:Leaf} (hi:k.cs[i]? = some l) (hu:l≠.u):∃y,x.cell? ⟨b,i,none⟩=some y/\l.den β y:=by
 rcases h with (⟨_,h⟩|⟨_,hq⟩)|⟨ys,zs,h1,h2,h3⟩
 ·rw[h] at hi;simp at hi
 ·exact (hq i l hi).resolve_left hu
 obtain ⟨y,hy,hd⟩:=h2.get hi
 refine ⟨y,?_,hd⟩
 rw[cell_of_row x b i _ _ _ h1]
 have hlt:i<ys.length:=(List.getElem?_eq_some_iff.1 hy).1
 simp[List.getElem?_append_left hlt,hy]
theorem y9.cell {β:Bt} {x:World} {b:Nat} {k:n6} (h:y9 β x b k) (hnq:k.ty≠.q) {i:Nat} {l:Leaf} (hi:k.cs[i]? = some l):∃y,x.cell? ⟨b,i,none⟩=some y/\l.den β y:=by
 rcases h with (⟨_,h⟩|⟨h,_⟩)|⟨ys,zs,h1,h2,h3⟩
 rotate_left
 ·exact absurd h hnq
 rotate_left
 ·rw[h] at hi;simp at hi
 obtain ⟨y,hy,hd⟩:=h2.get hi
 refine ⟨y,?_,hd⟩
 rw[cell_of_row x b i _ _ _ h1]
 have hlt:i<ys.length:=(List.getElem?_eq_some_iff.1 hy).1
 simp[List.getElem?_append_left hlt,hy]
theorem y9.range {β:Bt} {x:World} {b:Nat} {k:n6} (h:y9 β x b k) (hnq:k.ty≠.q) {i n:Nat} (hi:i+n<=k.cs.length) :
  ∃ys,x.rangeAt b i ys/\ys.length=n/\r9 (Leaf.den β) ((k.cs.drop i).take n) ys:=by
 rcases h with (⟨_,h⟩|⟨h,_⟩)|⟨ys,zs,h1,h2,h3⟩
 rotate_left
 ·exact absurd h hnq
 rotate_left
 ·rw[h] at hi⊢
  have e1:n=0:=by simp at hi;omega
  subst e1
  exact ⟨[],fun j v hv=>by simp at hv,rfl,by simp[r9]⟩
 have hl:=h2.length
 refine ⟨(ys.drop i).take n,?_,by simp;omega,(h2.drop i).take n⟩
 intro j v hv
 rw[cell_of_row x b (i+j) _ _ _ h1]
 have hj:j<n:=by
  have:=(List.getElem?_eq_some_iff.1 hv).1
  simp at this;omega
 have h3:ys[i+j]? = some v:=by
  rw[List.getElem?_take,if_pos hj,List.getElem?_drop] at hv
  exact hv
 have hlt:i+j<ys.length:=(List.getElem?_eq_some_iff.1 h3).1
 simp[List.getElem?_append_left hlt,h3]
theorem y9.there {β:Bt} {x:World} {b:Nat} {k:n6} (h:y9 β x b k) (hnq:k.ty≠.q) {i n:Nat} (hi:i+n<=k.cs.length):x.there b i n:=by
 rcases h with (⟨_,h⟩|⟨h,_⟩)|⟨ys,zs,h1,h2,h3⟩
 rotate_left
 ·exact absurd h hnq
 rotate_left
 ·rw[h] at hi;simp at hi;intro j hj;omega
 have hl:=h2.length
 intro j hj
 constructor
 ·rw[cell_of_row x b (i+j) _ _ _ h1]
  have hlt:i+j<ys.length:=by omega
  simp[List.getElem?_append_left hlt,hlt]
 ·simp only[World.frozen?,h1]
  have hlt:i+j<ys.length:=by omega
  cases k.ty with
  |y n=>
   simp only[BT.fr,List.length_append]
   have:¬(ys.length+zs.length<=i+j):=by omega
   simp[this]
  |t n=>simp[BT.fr]
  |r n sz id=>simp[BT.fr]
  |e n=>simp[BT.fr]
  |x=>simp[BT.fr]
  |q=>simp[BT.fr]
def j4 {α:Type} (l:List α) (i:Nat) (m:List α):List α:=match m with
 |[]=>l
 |a::m=>j4 (l.set i a) (i+1) m
theorem r9.splice {α β:Type} {R:α->β->Prop}:∀ {m:List α} {m':List β} {l:List α} {l':List β} (i:Nat),r9 R l l'->r9 R m m'->r9 R (Ab.j4 l i m) (Ab.j4 l' i m')
 |[],[],_,_,_,h,_=>h
 |_::_,_::_,_,_,i,h,k=>r9.splice (i+1) (h.set i k.1) k.2
theorem u4 {α:Type}:∀(m l:List α) (i:Nat),(Ab.j4 l i m).length=l.length
 |[],_,_=>rfl
 |a::m,l,i=>by rw[Ab.j4,u4 m];simp
theorem P3 {α:Type}:∀(m l z:List α) (i:Nat),i+m.length<=l.length->Ab.j4 (l++z) i m=Ab.j4 l i m++z
 |[],_,_,_,_=>rfl
 |a::m,l,z,i,h=>by
  simp only[List.length_cons] at h
  rw[Ab.j4,Ab.j4,List.set_append_left _ _ (by omega),P3 m _ z (i+1) (by simp;omega)]
theorem T9 (b:Nat) (t:TypeId) {fr:Nat×Nat}:∀(vs ys:List Value) (o:Nat) (x:World),x.heap[b]? = some (.cells ys.toArray t fr)->(x.setCells b o vs).heap[b]? = some (.cells (Ab.j4 ys o vs).toArray t fr)
 |[],ys,o,x,h=>h
 |v::vs,ys,o,x,h=>by
  refine T9 b t vs (ys.set o v) (o+1) _ ?_
  simp[World.setCell,Array.getElem?_modify,h]
theorem K0 (b:Nat):∀(vs:List Value) (o:Nat) (x:World),(x.setCells b o vs).heap.size=x.heap.size
 |[],_,_=>rfl
 |v::vs,o,x=>by rw[World.setCells,K0 b vs];simp[World.setCell]
theorem T6 (b:Nat) {k:Nat} (hk:k≠b):∀(vs:List Value) (o:Nat) (x:World),(x.setCells b o vs).heap[k]? = x.heap[k]?
 |[],_,_=>rfl
 |v::vs,o,x=>by rw[World.setCells,T6 b hk vs];exact heap_setCell_other _ _ _ _ hk
theorem bN (b:Nat):∀(vs:List Value) (o:Nat) (x:World),(x.setCells b o vs).os=x.os/\(x.setCells b o vs).tape=x.tape/\(x.setCells b o vs).output=x.output
 |[],_,_=>⟨rfl,rfl,rfl⟩
 |v::vs,o,x=>by rw[World.setCells];obtain ⟨h1,h2,h3⟩:=bN b vs (o+1) (x.setCell ⟨b,o,none⟩ v);exact ⟨h1,h2,h3⟩
theorem y9.store {β:Bt} {x:World} {b:Nat} {k:n6} (h:y9 β x b k) (hnq:k.ty≠.q) {i:Nat} {m:List Leaf} {ms:List Value} (hi:i+m.length<=k.cs.length) (hm:r9 (Leaf.den β) m ms) :
  y9 β (x.setCells b i ms) b ⟨Ab.j4 k.cs i m,k.ty⟩:=by
 rcases h with (⟨h,h'⟩|⟨h,_⟩)|⟨ys,zs,h1,h2,h3⟩
 rotate_left
 ·exact absurd h hnq
 rotate_left
 ·rw[h'] at hi
  have e1:m=[]:=List.eq_nil_of_length_eq_zero (by simp only[List.length_nil] at hi;omega)
  subst e1
  exact .inl (.inl ⟨h,h'⟩)
 have hl:=h2.length
 have hml:=hm.length
 refine .inr ⟨Ab.j4 ys i ms,zs,?_,h2.splice i hm,?_⟩
 ·rw[T9 b k.ty.ty ms _ i x h1,P3 ms ys zs i (by omega),List.length_append,List.length_append,u4]
 ·rw[List.length_append,u4,<-List.length_append];exact h3
def lk {α:Type}:List (Nat×α)->Nat->Option α
 |[],_=>none
 |(k,v)::l,i=>match Nat.beq k i with|true=>some v|false=>lk l i
theorem o5 {α:Type} (k:Nat) (v:α) (l:List (Nat×α)):lk ((k,v)::l) k=some v:=by
 unfold lk;rw[show Nat.beq k k=true from Nat.beq_refl k]
theorem t6 {α:Type} {k i:Nat} (v:α) (l:List (Nat×α)) (h:k≠i):lk ((k,v)::l) i=lk l i:=by
 have:Nat.beq k i=false:=by
  cases hb:Nat.beq k i with
  |false=>rfl
  |true=>exact absurd (Nat.eq_of_beq_eq_true hb) h
 show (match Nat.beq k i with|true=>some v|false=>lk l i)=_
 rw[this]
theorem S3 {α:Type}:∀(l m:List (Nat×α)) (i:Nat),lk (l++m) i=match lk l i with|some v=>some v|none=>lk m i
 |[],m,i=>rfl
 |(k,v)::l,m,i=>by
  by_cases h:k=i
  ·subst h;rw[List.cons_append,o5,o5]
  ·rw[List.cons_append,t6 _ _ h,t6 _ _ h];exact S3 l m i
theorem M3 {α:Type}:∀ {l:List (Nat×α)} {i:Nat} {v:α},lk l i=some v->(i,v)∈l
 |[],i,v,h=>by cases h
 |(k,w)::l,i,v,h=>by
  by_cases e:k=i
  ·subst e;rw[o5] at h;cases h;simp
  ·rw[t6 _ _ e] at h;exact List.mem_cons_of_mem _ (M3 h)
theorem uZ {α:Type}:∀ {l:List (Nat×α)} {i:Nat},i∉l.map (·.1)->lk l i=none
 |[],i,h=>rfl
 |(k,w)::l,i,h=>by
  simp only[List.map_cons,List.mem_cons,not_or] at h
  rw[t6 _ _ (Ne.symm h.1)];exact uZ h.2
structure St where
 E:List (Nat×SV)
 H:List (Nat×Option n6)
 n:Nat
 m:Nat
 W:List Nat
 q:Nat
def St.sl (S:St) (t:Nat):SV:=match lk S.E t with|some v=>v|none=>.u
def St.blk (S:St) (id:Nat):Option n6:=match lk S.H id with|some b=>b|none=>none
def St.blkW (S:St) (id:Nat):Option n6:=match S.blk id with
 |some k=>match k.ty.nq with|true=>some k|false=>none
 |none=>none
theorem O5 {S:St} {id:Nat} {k:n6} (h:S.blkW id=some k):S.blk id=some k/\k.ty≠.q:=by
 unfold St.blkW at h
 split at h
 ·rename_i k' hk
  split at h
  ·rename_i hn;cases h;exact ⟨hk,BT.nq_spec hn⟩
  ·cases h
 ·cases h
structure Rep (β:Bt) (S:St) (a:Act) (x:World):Prop where
 sl:∀t,(S.sl t).den β (a.eval (.tmp t))
 size:a.tmps.size=S.m
 defs:a.defers=[]
 blk:∀id b k,β id=some b->S.blk id=some k->y9 β x b k
 inj:∀i j b,β i=some b->β j=some b->i=j
 lt:∀i b,β i=some b->b<x.heap.size/\i<S.n
 ltc:∀i v,β.c i=some v->i<S.n
 q:S.q<=S.n
structure Nx (n:Nat) (W:List Nat) (β:Bt) (x:World) (β':Bt) (x':World):Prop where
 old:∀id,id<n->β' id=β id
 oldc:∀id,id<n->β'.c id=β.c id
 new:∀id b,β' id=some b->(id<n/\β id=some b)\/(n<=id/\(x.heap.size<=b\/∃j,n<=j/\β j=some b))
 os:x'.os=x.os
 tape:x'.tape=x.tape
 output:x'.output=x.output
 size:x.heap.size<=x'.heap.size
 keep:∀k,k<x.heap.size->(∀id,β id=some k->id<n/\id∉W)->x'.heap[k]? = x.heap[k]?
theorem Nx.refl {n:Nat} {W:List Nat} {β:Bt} {x:World}:Nx n W β x β x:=
 ⟨fun _ _=>rfl,fun _ _=>rfl,fun id b e=>(Nat.lt_or_ge id n).elim (fun h=>.inl ⟨h,e⟩) fun h=>.inr ⟨h,.inr ⟨id,h,e⟩⟩,rfl,rfl,rfl,Nat.le_refl _,fun _ _ _=>rfl⟩
theorem Nx.trans {n:Nat} {W W':List Nat} {β β' β'':Bt} {x x' x'':World} (h:Nx n W β x β' x') (k:Nx n W' β' x' β'' x'') (hW:∀i∈W,i<n->i∈W'):Nx n W' β x β'' x'':=by
 refine ⟨fun id hi=>(k.old id hi).trans (h.old id hi),fun id hi=>(k.oldc id hi).trans (h.oldc id hi),fun id b e=>?_,k.os.trans h.os,k.tape.trans h.tape,k.output.trans h.output,Nat.le_trans h.size k.size,fun q hq hne=>?_⟩
 ·rcases k.new id b e with ⟨h1,h2⟩|⟨h1,h2|⟨j,h2,h3⟩⟩
  ·exact .inl ⟨h1,by rw[<-h.old id h1];exact h2⟩
  ·exact .inr ⟨h1,.inl (Nat.le_trans h.size h2)⟩
  ·rcases h.new j b h3 with ⟨h4,_⟩|⟨_,h4⟩
   ·omega
   ·exact .inr ⟨h1,h4⟩
 ·rw[k.keep q (Nat.lt_of_lt_of_le hq h.size) ?_,h.keep q hq fun id hb=>⟨(hne id hb).1,fun hw=>(hne id hb).2 (hW id hw (hne id hb).1)⟩]
  intro id hb
  rcases h.new id q hb with ⟨h1,h2⟩|⟨h1,h2|⟨j,h2,h3⟩⟩
  ·exact hne id h2
  ·omega
  ·have:=(hne j h3).1;omega
end Ab
namespace Ab
def Q5:List Prop->Prop
 |[]=>True
 |p::ps=>p/\Q5 ps
theorem Q5.append:∀ {l m:List Prop},Q5 (l++m)↔Q5 l/\Q5 m
 |[],m=>by simp[Q5]
 |p::l,m=>by simp only[List.cons_append,Q5,Q5.append (l:=l) (m:=m),and_assoc]
structure Eff where
 v:SV
 rd:List Nat:=[]
 wr:List (Nat×n6):=[]
 nw:Nat:=0
 dc:List (Nat×Nat×Bool):=[]
 obs:List Prop:=[]
def Be (β:Bt) (dc:List (Nat×Nat×Bool)):Prop:=∀p∈dc,∀v,β.c p.1=some v->decide (p.2.1<=v)=p.2.2
structure Done (n nw:Nat) (β:Bt) (x:World) (wr:List (Nat×n6)) (v:SV) (y:Value) (β':Bt) (x':World):Prop where
 den:v.den β' y
 ext:Ext β β'
 new:∀id b,β' id=some b->β id=some b\/(n<=id/\id<n+nw/\x.heap.size<=b)
 newc:∀id v,β'.c id=some v->β.c id=some v\/(n<=id/\id<n+nw)
 inj:∀i j b,β' i=some b->β' j=some b->i=j
 lt:∀i b,β' i=some b->b<x'.heap.size
 os:x'.os=x.os
 tape:x'.tape=x.tape
 output:x'.output=x.output
 size:x.heap.size<=x'.heap.size
 keep:∀k,k<x.heap.size->(∀id,β id=some k->lk wr id=none)->x'.heap[k]? = x.heap[k]?
 blk:∀id b k,β' id=some b->lk wr id=some k->y9 β' x' b k
def j6 (P:Program) (f:Nat):Prop:=∀(args:Array Value) (w:World),(callFunc f args).run P w=.ok (.enter f args) w
def j8 (P:Program) (f:Nat) (dc:List (Nat×Nat×Bool)) (args:List SV) (H:List (Nat×n6)) (n:Nat) (v:SV) (wr:List (Nat×n6)) (nw:Nat):Prop:=
 j6 P f/\∀(β:Bt) (x:World) (vals:List Value),r9 (SV.den β) args vals->(∀i j b,β i=some b->β j=some b->i=j)->(∀i b,β i=some b->b<x.heap.size)->
  (∀id,n<=id->id<n+nw->β id=none/\β.c id=none)->(∀id b k,β id=some b->lk H id=some k->y9 β x b k)->Be β dc->
  Calls P f vals.toArray x fun e x'=>∃y β',e=.returned y/\Done n nw β x wr v y β' x'
abbrev f4 (P:Program) (f:Nat) (args:List SV) (H:List (Nat×n6)) (n:Nat) (v:SV) (wr:List (Nat×n6)) (nw:Nat):Prop:=j8 P f [] args H n v wr nw
def H4 (P:Program) (t:Nat) (xs ys:List Leaf) (b:Bool):Prop:=
 ∀(β:Bt) (u v:List Value) (x y:Operand) (w:World),r9 (Leaf.den β) xs u->r9 (Leaf.den β) ys v->
  (do eqGuard .eql t x y (.agg u.toArray) (.agg v.toArray);binOp .eql t (.agg u.toArray) (.agg v.toArray):Sem Value).run P w=.ok (.bool b) w/\
  (do eqGuard .neq t x y (.agg u.toArray) (.agg v.toArray);binOp .neq t (.agg u.toArray) (.agg v.toArray):Sem Value).run P w=.ok (.bool (!b)) w
structure Cr where
 v:SV
 rd:List Nat:=[]
 wr:List (Nat×n6):=[]
 nw:Nat:=0
 dc:List (Nat×Nat×Bool):=[]
structure Cx where
 ct:Nat->Option (Bool->St->List SV->Option Cr)
 eq:Nat->Option (List Leaf->List Leaf->Bool):=fun _=>none
 raw:List Nat:=[]
 sym:List Nat:=[]
 nf:List (Nat×SV):=[]
 ap:Bool:=true
 ex:List Nat:=[]
 wh:List Nat:=[]
def J9 (i:Nat):List Nat->Bool
 |[]=>false
 |k::l=>match Nat.beq k i with|true=>true|false=>J9 i l
def D7 (S:St):Operand->SV
 |.tmp t=>S.sl t
 |.const v=>match K1 v with|true=>.c (.l (.v v))|false=>.u
 |.func f=>.c (.l (.f f []))
 |.global _=>.u
abbrev iv (k:IntKind) (n:Int):SV:=.c (.l (.v (.int k n)))
abbrev bv (b:Bool):SV:=.c (.l (.v (.bool b)))
def aU (raw:Bool) (k:IntKind) (n:Int):SV×List Prop:=match raw,k with
 |false,.i64=>(iv .i64 n,[IntKind.i64.wrap n=n])
 |_,k=>(iv k (k.wrap n),[])
def aW (op:BinOp) (k:IntKind) (x y:Int):Int:=match op with
 |.and=>k.wrap (BitVec.ofInt k.bits x &&& BitVec.ofInt k.bits y).toNat
 |.or=>k.wrap (BitVec.ofInt k.bits x ||| BitVec.ofInt k.bits y).toNat
 |.xor=>k.wrap (BitVec.ofInt k.bits x ^^^ BitVec.ofInt k.bits y).toNat
 |_=>k.wrap (BitVec.ofInt k.bits x &&& ~~~BitVec.ofInt k.bits y).toNat
def Sy (raw:Bool) (op:BinOp) (k:IntKind) (a b:Int):Option (SV×List Prop):=match op with
 |.add=>some (aU raw k (a+b))
 |.sub=>some (aU raw k (a-b))
 |.mul=>some (aU raw k (a*b))
 |.quo=>some ((aU raw k (a.tdiv b)).1,(b≠0)::(aU raw k (a.tdiv b)).2)
 |.rem=>some (iv k (a.tmod b),[b≠0])
 |.and=>some (iv k (aW .and k a b),[])
 |.or=>some (iv k (aW .or k a b),[])
 |.xor=>some (iv k (aW .xor k a b),[])
 |.andNot=>some (iv k (aW .andNot k a b),[])
 |.eql=>some (bv (a==b),[])
 |.neq=>some (bv (a != b),[])
 |.lss=>some (bv (decide (a<b)),[])
 |.leq=>some (bv (decide (a<=b)),[])
 |.gtr=>some (bv (decide (a>b)),[])
 |.geq=>some (bv (decide (a>=b)),[])
 |_=>none
def uA (raw:Bool) (op:BinOp) (k:IntKind) (a b:Int):Option (SV×List Prop):=match op with
 |.shl=>some ((aU raw k (a*2 ^ (min b.toNat k.bits))).1,(0<=b)::(aU raw k (a*2 ^ (min b.toNat k.bits))).2)
 |.shr=>some (iv k (a.fdiv (2 ^ (min b.toNat k.bits))),[0<=b])
 |_=>none
def fV:BinOp->Bool
 |.shl | .shr=>true
 |_=>false
def Qv (P:Program) (cx:Cx) (d:Nat) (op:BinOp) (t:Nat) (x y:SV):Option Eff:=match x,y with
 |.c (.l (.v (.int k a))),.c (.l (.v (.int k' b)))=>match fV op with
  |true=>match uA (J9 d cx.raw) op k a b with|some (v,o)=>some {v:=v,obs:=o}|none=>none
  |false=>match decide (k=k') with
   |true=>match Sy (J9 d cx.raw) op k a b with|some (v,o)=>some {v:=v,obs:=o}|none=>none
   |false=>none
 |.c (.l (.v (.string a))),.c (.l (.v (.string b)))=>match op with
  |.add=>some {v:=.c (.l (.v (.string (a++b)))),obs:=[((a.size+b.size:Nat):Int)<=IntKind.i64.max]}
  |.eql=>some {v:=bv (a.toList==b.toList)}
  |.neq=>some {v:=bv (!(a.toList==b.toList))}
  |_=>none
 |.c (.l (.v (.bool a))),.c (.l (.v (.bool b)))=>match P.underlying t with
  |some .bool=>match op with
   |.eql=>some {v:=bv (a==b)}
   |.neq=>some {v:=bv (!(a==b))}
   |_=>none
  |_=>none
 |.c (.l (.p _ _)),.c (.l (.v (.pointer none)))=>match P.underlying t with
  |some (.pointer _)=>match op with
   |.eql=>some {v:=bv false}
   |.neq=>some {v:=bv true}
   |_=>none
  |_=>none
 |.c (.l (.v (.pointer none))),.c (.l (.v (.pointer none)))=>match P.underlying t with
  |some (.pointer _)=>match op with
   |.eql=>some {v:=bv true}
   |.neq=>some {v:=bv false}
   |_=>none
  |_=>none
 |.c (.agg xs),.c (.agg ys)=>match cx.eq t with
  |some q=>match op with
   |.eql=>some {v:=bv (q xs ys),obs:=[H4 P t xs ys (q xs ys)]}
   |.neq=>some {v:=bv (!(q xs ys)),obs:=[H4 P t xs ys (q xs ys)]}
   |_=>none
  |none=>none
 |_,_=>none
def qJ (P:Program) (t:Nat):Option Nat:=match P.info? t with|some i=>some i.size|none=>none
def Da (P:Program) (t:Nat):Option Bool:=match P.underlying t with|some d=>some d.isRow|none=>none
def zc (P:Program) (t:Nat):Option (List Leaf):=match P.info? t with
 |some i=>match i.zero with
  |some z=>match z.cells.toList.all K1 with
   |true=>some (z.cells.toList.map .v)
   |false=>none
  |none=>none
 |none=>none
def R1 (sym:Bool) (b:Bool) (p:Prop):Option (List Prop):=match sym with
 |true=>some [p]
 |false=>match b with|true=>some []|false=>none
def W8 (P:Program) (cx:Cx) (d:Nat) (S:St) (t:Nat) (x:SV):Option Eff:=match x with
 |.c (.l (.p id off))=>match S.blkW id with
  |some k=>match Da P t,qJ P t with
   |some false,_=>match R1 (J9 d cx.sym) (Nat.blt off k.cs.length) (off<k.cs.length) with
    |some o=>some {v:=.c (.l (k.cs.getD off .u)),rd:=[id],obs:=o}
    |none=>none
   |some true,some n=>match R1 (J9 d cx.sym) (Nat.ble (off+n) k.cs.length) (off+n<=k.cs.length) with
    |some o=>some {v:=.c (.agg ((k.cs.drop off).take n)),rd:=[id],obs:=o}
    |none=>none
   |_,_=>none
  |none=>match S.blk id,Da P t,J9 d cx.sym with
   |some k,some false,true=>some {v:=.c (.l (k.cs.getD off .u)),rd:=[id],obs:=[off<k.cs.length,k.cs.getD off .u≠.u]}
   |_,_,_=>none
 |_=>none
def whC (cs:List Leaf) (off:Nat) (m:List Leaf):Bool->List Leaf
 |true=>m
 |false=>j4 cs off m
def whO (off l n:Nat):Bool->List Prop
 |true=>[off=0,l=n]
 |false=>[]
theorem fL:∀(m z:List Leaf) (p:List Leaf),z.length=m.length->j4 (p++z) p.length m=p++m
 |[],z,p,h=>by
  have:z=[]:=List.eq_nil_of_length_eq_zero h
  subst this;rfl
 |a::m,b::z,p,h=>by
  have:=fL m z (p++[a]) (by simpa using h)
  rw[j4,List.set_append_right _ _ (Nat.le_refl _),Nat.sub_self,List.set_cons_zero]
  simpa using this
 |a::m,[],p,h=>by simp at h
theorem b3u {cs m:List Leaf} {off n:Nat} {w:Bool} (h:Q5 (whO off cs.length n w)) (hn:m.length=n):whC cs off m w=j4 cs off m:=by
 cases w with
 |false=>rfl
 |true=>
  obtain ⟨h1,h2,_⟩:=h
  subst h1
  exact (fL m cs [] (by omega)).symm
def uF (P:Program) (cx:Cx) (d:Nat) (S:St) (t:Nat) (x y:SV):Option Eff:=match x,y with
 |.c (.l (.p id off)),.c cp=>match S.blkW id,qJ P t with
  |some k,some n=>match Nat.beq cp.cells.length n with
   |true=>match R1 (J9 d cx.sym) (Nat.ble (off+n) k.cs.length) (off+n<=k.cs.length) with
    |some o=>some {v:=.u,rd:=[id],wr:=[(id,⟨whC k.cs off cp.cells (J9 t cx.wh),k.ty⟩)],obs:=o++whO off k.cs.length n (J9 t cx.wh)}
    |none=>none
   |false=>none
  |_,_=>none
 |_,_=>none
def lE (P:Program) (t:Nat) (xs:List Leaf) (off:Nat):Option SV:=match Da P t,qJ P t with
 |some true,some n=>some (.c (.agg ((xs.drop off).take n)))
 |some false,_=>match Nat.blt off xs.length with|true=>some (.c (.l (xs.getD off .u)))|false=>none
 |_,_=>none
def t0 (i:Int) (n:Nat):Prop:=0<=i/\i<n
def inR (i:Int) (n:Nat):Bool:=match i with | .ofNat k=>Nat.blt k n | .negSucc _=>false
def sN (P:Program) (cx:Cx) (d:Nat) (t:Nat) (x y:SV):Option Eff:=match x,y with
 |.c (.agg xs),.c (.l (.v (.int k i)))=>match P.underlying t with
  |some (.array len elem)=>match qJ P elem,Da P elem with
   |some n,some true=>match R1 (J9 d cx.sym) (inR i len) (t0 i len) with
    |some o=>some {v:=.c (.agg ((xs.drop (i.toNat*n)).take n)),obs:=o}
    |none=>none
   |some n,some false=>match R1 (J9 d cx.sym) (inR i len&&Nat.blt (i.toNat*n) xs.length) (t0 i len/\i.toNat*n<xs.length) with
    |some o=>some {v:=.c (.l (xs.getD (i.toNat*n) .u)),obs:=o}
    |none=>none
   |_,_=>none
  |_=>none
 |.c (.l (.v (.string s))),.c (.l (.v (.int k i)))=>match P.underlying t with
  |some .string=>match R1 (J9 d cx.sym) (inR i s.size) (t0 i s.size) with
   |some o=>some {v:=iv .u8 (s.get! i.toNat).toNat,obs:=o}
   |none=>none
  |_=>none
 |_,_=>none
def bP (P:Program) (cx:Cx) (d:Nat) (t:Nat) (x y:SV):Option Eff:=match x,y with
 |.c (.l (.p id off)),.c (.l (.v (.int k i)))=>match P.underlying t with
  |some (.array len elem)=>match qJ P elem with
   |some n=>match R1 (J9 d cx.sym) (inR i len) (t0 i len) with
    |some o=>some {v:=.c (.l (.p id (off+i.toNat*n))),obs:=o}
    |none=>none
   |none=>none
  |_=>none
 |.c (.l (.s id off len)),.c (.l (.v (.int k i)))=>match P.underlying t with
  |some (.slice elem)=>match qJ P elem with
   |some n=>match R1 (J9 d cx.sym) (inR i len) (t0 i len) with
    |some o=>some {v:=.c (.l (.p id (off+i.toNat*n))),obs:=o}
    |none=>none
   |none=>none
  |_=>none
 |.c (.l (.o id len)),.c (.l (.v (.int k i)))=>match P.underlying t with
  |some (.slice elem)=>match qJ P elem with
   |some n=>match R1 (J9 d cx.sym) (inR i len) (t0 i len) with
    |some o=>some {v:=.c (.l (.p id (i.toNat*n))),obs:=o}
    |none=>none
   |none=>none
  |_=>none
 |_,_=>none
def Fe:SV->Option (Leaf×Option Bool)
 |.c (.l x)=>some (x,none)
 |.g d (.l x)=>some (x,some d)
 |_=>none
def c2m (q:Prop):Option Bool->List Prop
 |none=>[]
 |some d=>[q->d=true]
def Cn (c a b:SV):Option Eff:=match c,Fe a,Fe b with
 |.c (.l (.v (.bool q))),some (.v (.bool xa),da),some (.v (.bool xb),db)=>
  some {v:=bv (cond q xa xb),obs:=c2m (q=true) da++c2m (q=false) db}
 |_,_,_=>none
def jP (place:Nat->Option (Nat×Nat)) (cells:List Leaf):List (Nat×SV)->Option (List Leaf)
 |[]=>some cells
 |(i,v)::rest=>match place i,v with
  |some (off,size),.c cp=>match Nat.beq cp.cells.length size,Nat.ble (off+cp.cells.length) cells.length with
   |true,true=>jP place (j4 cells off cp.cells) rest
   |_,_=>none
  |_,_=>none
def places (P:Program):List Field->Option (List (Nat×Nat))
 |[]=>some []
 |f::fs=>match qJ P f.type,places P fs with
  |some n,some l=>some ((f.offset,n)::l)
  |_,_=>none
def sX (P:Program) (S:St) (t:Nat) (parts:List (Nat×Operand)):Option Eff:=match P.underlying t,zc P t with
 |some (.struct fs),some z=>match places P fs.toList with
  |some pl=>match jP (fun i=>pl[i]?) z (parts.map fun p=>(p.1,D7 S p.2)) with
   |some xs=>some {v:=.c (.agg xs)}
   |none=>none
  |none=>none
 |some (.array _ e),some z=>match qJ P e with
  |some n=>match jP (fun i=>some (i*n,n)) z (parts.map fun p=>(p.1,D7 S p.2)) with
   |some xs=>some {v:=.c (.agg xs)}
   |none=>none
  |none=>none
 |_,_=>none
def Pq:List SV->Option (List (Nat×Nat))
 |[]=>some []
 |.c (.l (.p id off))::l=>match Pq l with|some r=>some ((id,off)::r)|none=>none
 |_=>none
def mmf (f:Int->Int->Int) (k:IntKind):Int->List SV->Option SV
 |a,[]=>some (iv k a)
 |a,.c (.l (.v (.int _ b)))::l=>mmf f k (f a b) l
 |_,_=>none
def mm (f:Int->Int->Int):List SV->Option SV
 |.c (.l (.v (.int k a)))::l=>mmf f k a l
 |_=>none
def E7 (x y:Int):Int:=if y<x then y else x
def F1 (x y:Int):Int:=if y>x then y else x
def iN (P:Program) (b:Builtin) (tys:List Nat) (args:List SV):Option Eff:=match b with
 |.min=>match mm E7 args with|some v=>some {v:=v}|none=>none
 |.max=>match mm F1 args with|some v=>some {v:=v}|none=>none
 |.len=>match tys,args with
  |t::_,[.c (.l (.v (.string s)))]=>match P.underlying t with|some .string=>some {v:=iv .i64 s.size}|_=>none
  |t::_,[.c (.l (.s _ _ n))]=>match P.underlying t with|some (.slice _)=>some {v:=iv .i64 n}|_=>none
  |t::_,[.c (.l (.v (.slice _ n _)))]=>match P.underlying t with|some (.slice _)=>some {v:=iv .i64 n}|_=>none
  |t::_,[.c (.l (.o _ n))]=>match P.underlying t with|some (.slice _)=>some {v:=iv .i64 n}|_=>none
  |_,_=>none
 |_=>none
def A0 (s:ByteArray):List Leaf:=s.data.toList.map fun b=>.v (.int .u8 (b.toNat:Int))
structure Sr where
 m:Nat
 cs:List Leaf
 rd:List Nat
 obs:List Prop
def lfB:Leaf->UInt8
 |.v (.int _ n)=>UInt8.ofNat n.toNat
 |_=>0
def D4 (l:List Leaf):ByteArray:=⟨(l.map lfB).toArray⟩
def G1 (l:List Leaf):Prop:=∀x∈l,∃b:UInt8,x=.v (.int .u8 (b.toNat:Int))
def btA (t:Nat):Bool->BT
 |true=>.e t
 |false=>.t t
def a3c (P:Program) (sym:Bool) (S:St) (t sz:Nat):SV->Option Sr
 |.c (.l (.s id off m))=>match P.underlying t,S.blkW id with
  |some (.slice _),some k=>match R1 sym (Nat.ble (off+m*sz) k.cs.length) (off+m*sz<=k.cs.length) with
   |some o=>some ⟨m,(k.cs.drop off).take (m*sz),[id],o⟩
   |none=>none
  |_,_=>none
 |.c (.l (.o id m))=>match P.underlying t,S.blkW id with
  |some (.slice _),some k=>match R1 sym (Nat.beq (m*sz) k.cs.length) (m*sz=k.cs.length) with
   |some o=>some ⟨m,k.cs,[id],o⟩
   |none=>none
  |_,_=>none
 |.c (.l (.v (.string s)))=>match P.underlying t,sz with
  |some .string,1=>some ⟨s.size,A0 s,[],[]⟩
  |_,_=>none
 |_=>none
def fW (P:Program) (e need:Nat):Prop:=∀i,P.info? e=some i->need*(i.bytes+1)<=140737488355328
def isR (e sz id:Nat):BT->Bool
 |.r a b c=>Nat.beq a e&&(Nat.beq b sz&&Nat.beq c id)
 |_=>false
def nE (P:Program) (cx:Cx) (d:Nat) (S:St) (tys:List Nat) (args:List SV):Option Eff:=match tys,args with
 |[t,t2],[.c (.l (.o id len)),x]=>match P.underlying t with
  |some (.slice e)=>match qJ P e,zc P e,S.blk id with
   |some sz,some z,some k=>match a3c P (J9 d cx.sym) S t2 sz x,R1 (J9 d cx.sym) (Nat.beq k.cs.length (len*sz)) (k.cs.length=len*sz),isR e sz id k.ty&&Nat.beq z.length sz with
    |some r,some o,true=>match cx.ap with
     |true=>some {v:=.c (.l (.o id (len+r.m))),rd:=id::r.rd,wr:=[(id,⟨k.cs++r.cs,.r e sz id⟩)],dc:=[(id,len+r.m,true)],obs:=o++r.obs}
     |false=>some {v:=.c (.l (.o S.n (len+r.m))),rd:=id::r.rd,wr:=[(S.n,⟨k.cs++r.cs,.r e sz S.n⟩)],nw:=1,dc:=[(id,len+r.m,false)],obs:=fW P e (len+r.m)::(o++r.obs)}
    |_,_,_=>none
   |_,_,_=>none
  |_=>none
 |[t,t2],[.c (.l (.v (.slice none 0 0))),x]=>match P.underlying t with
  |some (.slice e)=>match qJ P e,zc P e with
   |some sz,some z=>match a3c P (J9 d cx.sym) S t2 sz x,Nat.beq z.length sz with
    |some r,true=>some {v:=.c (.l (.o S.n r.m)),rd:=r.rd,wr:=[(S.n,⟨r.cs,.r e sz S.n⟩)],nw:=1,obs:=(0<r.m)::fW P e r.m::r.obs}
    |_,_=>none
   |_,_=>none
  |_=>none
 |_,_=>none
def rdH (S:St):List Nat->List (Nat×n6)
 |[]=>[]
 |i::l=>match S.blk i with|some k=>(i,k)::rdH S l|none=>rdH S l
def Bq (P:Program) (cx:Cx) (d:Nat) (S:St) (c:Call):Option Eff:=match c.callee with
 |.value f=>match D7 S f with
  |.c (.l (.f fn caps))=>match cx.ct fn with
   |some k=>match k cx.ap S ((c.args.toList.map (D7 S))++caps.map fun p=>.c (.l (.p p.1 p.2))) with
    |some r=>some {v:=r.v,rd:=r.rd,wr:=r.wr,nw:=r.nw,dc:=r.dc,obs:=[j8 P fn r.dc ((c.args.toList.map (D7 S))++caps.map fun p=>.c (.l (.p p.1 p.2))) (rdH S r.rd) S.n r.v r.wr r.nw]}
    |none=>none
   |none=>none
  |_=>none
 |.builtin .append=>nE P cx d S c.argTypes.toList (c.args.toList.map (D7 S))
 |.builtin b=>iN P b c.argTypes.toList (c.args.toList.map (D7 S))
 |_=>none
def Au (S:St):Option Operand->Int->Option Int
 |none,d=>some d
 |some p,_=>match D7 S p with | .c (.l (.v (.int _ i)))=>some i|_=>none
def O6 (i j n:Int):Prop:=0<=i/\i<=j/\j<=n
def pR (i j n:Int):Prop:=0<=i/\i<=j/\j<=n/\(i<n\/i=0)
def tS (P:Program) (S:St) (t:Nat) (x:SV) (lo hi mx:Option Operand):Option Eff:=match x,mx with
 |.c (.l (.v (.string s))),none=>match P.underlying t with
  |some .string=>match Au S lo 0,Au S hi s.size with
   |some i,some j=>some {v:=.c (.l (.v (.string (s.extract i.toNat j.toNat)))),obs:=[O6 i j s.size]}
   |_,_=>none
  |_=>none
 |.c (.l (.s id off len)),none=>match P.underlying t with
  |some (.slice e)=>match qJ P e,Au S lo 0,Au S hi len with
   |some sz,some i,some j=>some {v:=.c (.l (.s id (off+i.toNat*sz) (j-i).toNat)),obs:=[pR i j len]}
   |_,_,_=>none
  |_=>none
 |_,_=>none
def uM (P:Program) (S:St) (t:Nat) (x y:SV):Option Eff:=match P.underlying t,x,y with
 |some (.slice e),.c (.l (.v (.int _ 0))),.c (.l (.v (.int _ (.ofNat c))))=>match P.info? e with
  |some i=>match i.zero,i.size with
   |some _,1=>match Nat.ble (i.bytes*c) 281474976710656,Nat.ble c 16777216 with
    |true,true=>some {v:=.c (.l (.o S.n 0)),wr:=[(S.n,⟨[],.r e 1 S.n⟩)],nw:=1}
    |_,_=>none
   |_,_=>none
  |none=>none
 |_,_,_=>none
def Wu (P:Program) (S:St) (t len:Nat) (ps:List (Nat×Operand)):Option Eff:=match P.underlying t with
 |some (.slice e)=>match qJ P e,zc P e with
  |some 1,some [z]=>match Nat.ble len 1000,jP (fun i=>some (i*1,1)) (List.replicate len z) (ps.map fun p=>(p.1,D7 S p.2)) with
   |true,some xs=>match Nat.beq xs.length len with
    |true=>some {v:=.c (.l (.o S.n len)),wr:=[(S.n,⟨xs,.r e 1 S.n⟩)],nw:=1}
    |false=>none
   |_,_=>none
  |some (n+2),some z=>match len,Nat.ble n 1000&&Nat.beq z.length (n+2),jP (fun i=>some (i*(n+2),n+2)) z (ps.map fun p=>(p.1,D7 S p.2)) with
   |0,_,_=>match ps with
    |[]=>some {v:=.c (.l (.o S.n 0)),wr:=[(S.n,⟨[],.r e (n+2) S.n⟩)],nw:=1}
    |_=>none
   |1,true,some xs=>match Nat.beq xs.length (n+2) with
    |true=>some {v:=.c (.l (.o S.n 1)),wr:=[(S.n,⟨xs,.r e (n+2) S.n⟩)],nw:=1}
    |false=>none
   |_,_,_=>none
  |_,_=>none
 |_=>none
def byteOf:Leaf->Option Int
 |.v (.int .u8 b)=>some b
 |_=>none
def P2:List Leaf->Option (List Int)
 |[]=>some []
 |x::l=>match byteOf x,P2 l with|some b,some r=>some (b::r)|_,_=>none
def strOf (bs:List Int):ByteArray:=⟨(bs.map fun b=>UInt8.ofNat b.toNat).toArray⟩
def D8 (b:Int):Prop:=0<=b/\b<256
def Cb (P:Program) (sym:Bool) (S:St) (s t:Nat) (x:SV):Option Eff:=match P.underlying s,P.underlying t,x with
  | some (.slice e), some .string, .c (.l (.s id off len)) => match P.underlying e, S.blkW id with
    | some (.int .u8), some k => match sym with
     |true=>some {v:=.c (.l (.v (.string (D4 ((k.cs.drop off).take len))))),rd:=[id],obs:=[off+len<=k.cs.length,G1 ((k.cs.drop off).take len)]}
     | false => match P2 ((k.cs.drop off).take len) with
      | some bs => match Nat.beq bs.length len with
        |true=>some {v:=.c (.l (.v (.string (strOf bs)))),rd:=[id],obs:=bs.map D8}
        |false=>none
      |none=>none
    |_,_=>none
  | some (.slice e), some .string, .c (.l (.o id len)) => match P.underlying e, S.blkW id with
    | some (.int .u8), some k => match sym with
     |true=>some {v:=.c (.l (.v (.string (D4 k.cs)))),rd:=[id],obs:=[k.cs.length=len,G1 k.cs]}
     | false => match P2 k.cs with
      | some bs => match Nat.beq bs.length len with
        |true=>some {v:=.c (.l (.v (.string (strOf bs)))),rd:=[id],obs:=bs.map D8}
        |false=>none
      |none=>none
    |_,_=>none
  |some (.int _),some (.int k),.c (.l (.v (.int _ n)))=>some {v:=iv k (k.wrap n)}
  |some .string,some .string,.c (.l (.v (.string s)))=>some {v:=.c (.l (.v (.string s)))}
  | some .string, some (.slice e), .c (.l (.v (.string s))) => match P.underlying e with
    |some (.int .u8)=>some {v:=.c (.l (.s S.n 0 s.size)),wr:=[(S.n,⟨A0 s,.y e⟩)],nw:=1}
    |_=>none
  |_,_,_=>none
def step (P:Program) (cx:Cx) (S:St) (o:Oper):Option Eff:=match o.op with
 |.move x | .assign x=>some {v:=D7 S x}
 |.pick c a b=>Cn (D7 S c) (D7 S a) (D7 S b)
 |.alloc t=>match zc P t with
  |some z=>some {v:=.c (.l (.p S.n 0)),wr:=[(S.n,⟨z,btA t (J9 t cx.ex)⟩)],nw:=1}
  |none=>none
 |.box t x=>match D7 S x with
  |.c cp=>some {v:=.c (.l (.p S.n 0)),wr:=[(S.n,⟨cp.cells,.t t⟩)],nw:=1}
  |_=>none
 |.build t parts=>sX P S t parts.toList
 |.load t x=>W8 P cx (o.dst.getD 0) S t (D7 S x)
 |.store t x y=>uF P cx (o.dst.getD 0) S t (D7 S x) (D7 S y)
 |.binOp op t x y _=>Qv P cx (o.dst.getD 0) op t (D7 S x) (D7 S y)
 |.unOp op t x=>match op,D7 S x with
  |.not,.c (.l (.v (.bool b)))=>some {v:=bv (!b)}
  |.neg,.c (.l (.v (.int k n)))=>some {v:=(aU (J9 (o.dst.getD 0) cx.raw) k (0-n)).1,obs:=(aU (J9 (o.dst.getD 0) cx.raw) k (0-n)).2}
  |_,_=>none
 |.convert s t x=>Cb P (J9 (o.dst.getD 0) cx.sym) S s t (D7 S x)
 |.makeSlice t x y=>uM P S t (D7 S x) (D7 S y)
 |.nilCheck x=>match D7 S x with
  |.c (.l (.p id off))=>some {v:=.c (.l (.p id off))}
  |_=>none
 |.slice t x lo hi mx=>tS P S t (D7 S x) lo hi mx
 |.buildSlice t len ps=>Wu P S t len ps.toList
 |.makeFunc fn first caps=>match fn,first.toList,Pq (caps.toList.map (D7 S)) with
  |.func f,[],some l=>some {v:=.c (.l (.f f l))}
  |_,_,_=>none
 |.fieldAddr t x i=>match P.underlying t,D7 S x with
  |some (.struct fs),.c (.l (.p id off))=>match fs.toList[i]? with
   |some f=>match qJ P f.type with
    |some (n+1)=>some {v:=.c (.l (.p id (off+f.offset)))}
    |_=>none
   |none=>none
  |_,_=>none
 |.field t x i=>match P.underlying t,D7 S x with
  |some (.struct fs),.c (.agg xs)=>match fs.toList[i]? with
   |some f=>match lE P f.type xs f.offset with|some v=>some {v:=v}|none=>none
   |none=>none
  |_,_=>none
 |.indexAddr t x i=>bP P cx (o.dst.getD 0) t (D7 S x) (D7 S i)
 |.index t x i=>sN P cx (o.dst.getD 0) t (D7 S x) (D7 S i)
 |.extract x i=>match D7 S x with
  |.tup xs=>match xs[i]? with|some c=>some {v:=.c c}|none=>none
  |_=>none
 |.call c=>Bq P cx (o.dst.getD 0) S c
 |_=>none
end Ab
namespace Ab
section
variable {P:Program} {cx:Cx} {S:St} {β:Bt} {a:Act} {x:World} {o:Oper} {e:Eff} {Q:Exit->Act->World->Prop}
def D6 (P:Program) (o:Oper) (a:Act) (x:World) (n:Nat) (e:Eff) (β:Bt) (Q:Exit->Act->World->Prop):Prop:=
 o.wp P a x (fun a' x'=>∃y β',a'=a.put o.dst y/\Done n e.nw β x e.wr e.v y β' x') Q
structure Wf (β:Bt) (x:World):Prop where
 inj:∀i j b,β i=some b->β j=some b->i=j
 lt:∀i b,β i=some b->b<x.heap.size
theorem sH {n nw:Nat} {v:SV} {y:Value} (hw:Wf β x) (hd:v.den β y):Done n nw β x [] v y β x:=
 ⟨hd,Ext.refl β,fun id b h=>.inl h,fun id v h=>.inl h,hw.inj,hw.lt,rfl,rfl,rfl,Nat.le_refl _,fun _ _ _=>rfl,fun _ _ _ _ h=>by cases h⟩
def Bt.set (β:Bt) (n b:Nat) (c:Option Nat):Bt:=⟨fun i=>if i=n then some b else β i,fun i=>if i=n then c else β.c i⟩
theorem Bt.set_b (β:Bt) (n b:Nat) (c:Option Nat):(β.set n b c) n=some b:=if_pos rfl
theorem Bt.set_c (β:Bt) (n b:Nat) (c:Option Nat):(β.set n b c).c n=c:=if_pos rfl
theorem Bt.set_ne (β:Bt) {n b i:Nat} {c:Option Nat} (h:i≠n):(β.set n b c) i=β i:=if_neg h
theorem Bt.set_cne (β:Bt) {n b i:Nat} {c:Option Nat} (h:i≠n):(β.set n b c).c i=β.c i:=if_neg h
theorem Bt.set_ext {β:Bt} {n b:Nat} {c:Option Nat} (hn:β n=none/\β.c n=none):Ext β (β.set n b c):=
 ⟨fun i v h=>by rw[Bt.set_ne β (fun e=>by subst e;rw[hn.1] at h;cases h)];exact h,fun i v h=>by rw[Bt.set_cne β (fun e=>by subst e;rw[hn.2] at h;cases h)];exact h⟩
theorem U3 {n:Nat} {k:n6} {v:SV} {y:Value} {c:Option Nat} {x':World} (hw:Wf β x) (hn:β n=none/\β.c n=none) (h1:x'.os=x.os) (h2:x'.tape=x.tape) (h3:x'.output=x.output) (hs:x.heap.size<x'.heap.size)
  (hk:∀q,q<x.heap.size->x'.heap[q]? = x.heap[q]?) (hd:v.den (β.set n x.heap.size c) y) (hb:y9 (β.set n x.heap.size c) x' x.heap.size k):Done n 1 β x [(n,k)] v y (β.set n x.heap.size c) x':=by
 refine ⟨hd,Bt.set_ext hn,?_,?_,?_,?_,h1,h2,h3,Nat.le_of_lt hs,fun q hq _=>hk q hq,?_⟩
 ·intro id b h
  by_cases e:id=n
  ·subst e
   rw[Bt.set_b] at h;cases h
   exact .inr ⟨Nat.le_refl _,by omega,Nat.le_refl _⟩
  ·rw[Bt.set_ne β e] at h;exact .inl h
 ·intro id v h
  by_cases e:id=n
  ·exact .inr ⟨by omega,by omega⟩
  ·rw[Bt.set_cne β e] at h;exact .inl h
 ·intro i j b hi hj
  by_cases ei:i=n
  ·subst ei
   rw[Bt.set_b] at hi;cases hi
   by_cases ej:j=i
   ·exact ej.symm
   ·rw[Bt.set_ne β ej] at hj;have:=hw.lt j _ hj;omega
  ·rw[Bt.set_ne β ei] at hi
   by_cases ej:j=n
   ·subst ej;rw[Bt.set_b] at hj;cases hj;have:=hw.lt i _ hi;omega
   ·rw[Bt.set_ne β ej] at hj;exact hw.inj i j b hi hj
 ·intro i b hi
  by_cases ei:i=n
  ·subst ei;rw[Bt.set_b] at hi;cases hi;exact hs
  ·rw[Bt.set_ne β ei] at hi;have:=hw.lt i b hi;omega
 ·intro id b k' hb' hk'
  have e:id=n:=by
   have:=M3 hk'
   simp only[List.mem_singleton,Prod.mk.injEq] at this;exact this.1
  subst e
  rw[o5] at hk';cases hk'
  rw[Bt.set_b] at hb';cases hb'
  exact hb
theorem bA {n:Nat} {y:Value} (hw:Wf β x) (hr:(execOp a.eval o).run P x=.ok (.value y) x) (hd:e.v.den β y) (he:e.wr=[]):D6 P o a x n e β Q:=by
 unfold D6 Oper.wp
 rw[hr,Oper.upon_value,he]
 exact ⟨y,β,rfl,sH hw hd⟩
theorem fZ {s:Sem Value} {y:Value} {x':World} (h:s.run P x=.ok y x'):(do pure (Next.value (<-s)):Sem Next).run P x=.ok (.value y) x':=by
 simp[Sem.run_bind,h]
theorem t8 {n:Nat} {y:Value} {s:Sem Value} (hw:Wf β x) (hx:execOp a.eval o=(do pure (Next.value (<-s)))) (hr:s.run P x=.ok y x) (hd:e.v.den β y) (he:e.wr=[]):D6 P o a x n e β Q:=
 bA hw (by rw[hx];exact fZ hr) hd he
theorem yW {n:Nat} {cs:List Leaf} {ys:List Value} {t:Nat} {s:Sem Value} (hw:Wf β x) (hn:β n=none/\β.c n=none) (hx:execOp a.eval o=(do pure (Next.value (<-s))))
  (hr:s.run P x=.ok (.pointer (some ⟨x.heap.size,0,none⟩)) (x.alloc (.cells ys.toArray t))) (hc:r9 (Leaf.den β) cs ys) (he:e={v:=.c (.l (.p n 0)),wr:=[(n,⟨cs,.t t⟩)],nw:=1}):D6 P o a x n e β Q:=by
 subst he
 unfold D6 Oper.wp
 rw[hx,fZ hr,Oper.upon_value]
 exact ⟨_,β.set n x.heap.size none,rfl,U3 hw hn rfl rfl rfl (by simp) (fun q hq=>Below.heap_alloc x _ q hq) ⟨x.heap.size,Bt.set_b _ _ _ _,rfl⟩ (.inr ⟨ys,[],by simpa [BT.ty,BT.fr] using heap_alloc_new x (.cells ys.toArray t),hc.mono fun _ _ q=>Leaf.ext (Bt.set_ext hn) q,trivial⟩)⟩
theorem Q6 {t n:Nat} (h:qJ P t=some n) (w:World):(sizeOf t).run P w=.ok n w:=by
 unfold qJ at h
 split at h
 ·rename_i i hi;cases h;simp[sizeOf,typeInfo,hi]
 ·cases h
theorem gJ {t n:Nat} (h:qJ P t=some n):(P.info? t).map (·.size)=some n:=by
 unfold qJ at h
 split at h
 ·rename_i i hi;cases h;simp[hi]
 ·cases h
theorem oD {t:Nat} {b:Bool} (h:Da P t=some b):∃d,P.underlying t=some d/\d.isRow=b:=by
 unfold Da at h
 split at h
 ·rename_i d hd;cases h;exact ⟨d,hd,rfl⟩
 ·cases h
theorem V0 {t:Nat} {b:Bool} (h:Da P t=some b) (w:World):(isAgg t).run P w=.ok b w:=by
 obtain ⟨d,hd,hr⟩:=oD h
 unfold isAgg
 rw[Sem.run_bind,run_underlying hd w]
 cases d<;>simp_all [TypeDesc.isRow]
theorem z8 {sym b:Bool} {p:Prop} {os:List Prop} (h:R1 sym b p=some os) (ho:Q5 os) (hb:b=true->p):p:=by
 unfold R1 at h
 cases sym with
 |true=>simp only[Option.some.injEq] at h;subst h;exact ho.1
 |false=>
  cases b with
  |true=>exact hb rfl
  |false=>cases h
theorem L1 {k:IntKind} {n:Int} {y:Value}:(iv k n).den β y↔y=.int k n:=⟨fun h=>h.1,fun h=>⟨h,rfl⟩⟩
theorem F3 {b:Bool} {y:Value}:(bv b).den β y↔y=.bool b:=⟨fun h=>h.1,fun h=>⟨h,rfl⟩⟩
theorem eV {t:Nat} {z:List Leaf} (h:zc P t=some z):∃v,(∀w,(zeroValue t).run P w=.ok v w)/\z=v.cells.toList.map .v/\(∀y∈v.cells.toList,K1 y=true):=by
 unfold zc at h
 split at h
 ·rename_i i hi
  split at h
  ·rename_i v hv
   split at h
   ·rename_i hl
    cases h
    exact ⟨v,fun w=>by simp[zeroValue,typeInfo,hi,hv],rfl,fun y hy=>(List.all_eq_true.1 hl) y hy⟩
   ·cases h
  ·cases h
 ·cases h
theorem iI {β:Bt}:∀ {l:List Value},(∀y∈l,K1 y=true)->r9 (Leaf.den β) (l.map .v) l
 |[],_=>trivial
 |y::l,h=>⟨⟨rfl,h y (by simp)⟩,iI fun z hz=>h z (by simp[hz])⟩
theorem Gr {n:Nat} {cs:List Leaf} {ys:List Value} {t:Nat} {s:Sem Value} (hw:Wf β x) (hn:β n=none/\β.c n=none) (hx:execOp a.eval o=(do pure (Next.value (<-s))))
  (hr:s.run P x=.ok (.pointer (some ⟨x.heap.size,0,none⟩)) (x.alloc (.cells ys.toArray t))) (hc:r9 (Leaf.den β) cs ys) (q:Bool) (he:e={v:=.c (.l (.p n 0)),wr:=[(n,⟨cs,btA t q⟩)],nw:=1}):D6 P o a x n e β Q:=by
 cases q with
 |false=>exact yW hw hn hx hr hc he
 |true=>
  subst he
  unfold D6 Oper.wp
  rw[hx,fZ hr,Oper.upon_value]
  exact ⟨_,β.set n x.heap.size none,rfl,U3 hw hn rfl rfl rfl (by simp) (fun q hq=>Below.heap_alloc x _ q hq) ⟨x.heap.size,Bt.set_b _ _ _ _,rfl⟩ (.inr ⟨ys,[],by simpa [BT.ty,BT.fr,btA] using heap_alloc_new x (.cells ys.toArray t),hc.mono fun _ _ q=>Leaf.ext (Bt.set_ext hn) q,by simp[btA,BT.room]⟩)⟩
theorem Rj {n:Nat} {t:Nat} {z:List Leaf} {q:Bool} (hw:Wf β x) (hn:β n=none/\β.c n=none) (ho:o.op=.alloc t) (hz:zc P t=some z) (he:e={v:=.c (.l (.p n 0)),wr:=[(n,⟨z,btA t q⟩)],nw:=1}):D6 P o a x n e β Q:=by
 obtain ⟨v,hv,hzv,hl⟩:=eV hz
 refine Gr (ys:=v.cells.toList) (t:=t) (cs:=z) hw hn (s:=Instr.alloc t true (.tuple #[])) (by unfold execOp;rw[ho]) ?_ (hzv▸iI hl) q he
 simp[Instr.alloc,hv,newVar,newRow,newObj,Sem.run]
 try rfl
theorem a7m {n:Nat} {t:Nat} {y:Operand} {cp:Cp} (hw:Wf β x) (hn:β n=none/\β.c n=none) (ho:o.op=.box t y) (hy:cp.den β (a.eval y)) (he:e={v:=.c (.l (.p n 0)),wr:=[(n,⟨cp.cells,.t t⟩)],nw:=1}):D6 P o a x n e β Q:=by
 refine yW (ys:=(a.eval y).cells.toList) (t:=t) (cs:=cp.cells) hw hn (s:=Instr.box t (a.eval y)) (by unfold execOp;rw[ho]) ?_ (Cp.den_cells hy) he
 simp[Instr.box,newVar,newRow,newObj,Sem.run]
 try rfl
theorem Z2 {l:List Leaf} {i:Nat} (h:i<l.length):l[i]? = some (l.getD i .u):=by
 simp[List.getD,h]
theorem Zb {n:Nat} {t:Nat} {y:Operand} (hw:Wf β x) (ho:o.op=.load t y) (hy:(D7 S y).den β (a.eval y)) (h:W8 P cx (o.dst.getD 0) S t (D7 S y)=some e) (hob:Q5 e.obs)
  (hrd:∀id∈e.rd,∀b k,β id=some b->S.blk id=some k->y9 β x b k):D6 P o a x n e β Q:=by
 unfold W8 at h
 split at h
 ·rename_i id off hv
  rw[hv] at hy
  obtain ⟨b,hb,hy⟩:=hy
  split at h
  ·rename_i k hk
   obtain ⟨hk,hnq⟩:=O5 hk
   split at h
   ·rename_i hag
    split at h
    ·rename_i os hos
     cases h
     have hlt:=z8 hos hob (fun q=>Nat.le_of_ble_eq_true q)
     have hB:=hrd id (by simp) b k hb hk
     obtain ⟨y',hc,hd⟩:=hB.cell hnq (Z2 hlt)
     refine t8 hw (s:=Instr.loadAt t (a.eval y)) (by unfold execOp;rw[ho]) ?_ hd rfl
     rw[hy]
     simp[Instr.loadAt,Instr.sureAddr,loadVar,V0 hag,load,Sem.run,hc]
    ·cases h
   ·rename_i m hag hsz
    split at h
    ·rename_i os hos
     cases h
     have hlt:=z8 hos hob (fun q=>Nat.le_of_ble_eq_true q)
     have hB:=hrd id (by simp) b k hb hk
     obtain ⟨ys,hr,hl,hd⟩:=hB.range hnq hlt
     obtain ⟨d,hd1,hd2⟩:=oD hag
     refine t8 hw (s:=Instr.loadAt t (a.eval y)) (y:=.agg ys.toArray) (by unfold execOp;rw[ho]) ?_ ⟨ys,rfl,hd⟩ rfl
     rw[hy]
     exact run_loadAt_mid x b off t ys d hr hd1 hd2 (by rw[gJ hsz,hl])
    ·cases h
   ·cases h
  ·split at h
   ·rename_i k hk hag _
    cases h
    obtain ⟨hlt,hu,_⟩:=hob
    obtain ⟨y',hc,hd⟩:=(hrd id (by simp) b k hb hk).cellU (Z2 hlt) hu
    refine t8 hw (s:=Instr.loadAt t (a.eval y)) (by unfold execOp;rw[ho]) ?_ hd rfl
    rw[hy]
    simp[Instr.loadAt,Instr.sureAddr,loadVar,V0 hag,load,Sem.run,hc]
   ·cases h
 ·cases h
theorem Sv {n : Nat} {t : Nat} {y z : Operand} (hw : Wf β x) (ho : o.op = .store t y z) (hy : (D7 S y).den β (a.eval y)) (hz : (D7 S z).den β (a.eval z)) (h : uF P cx (o.dst.getD 0) S t (D7 S y) (D7 S z) = some e) (hob : Q5 e.obs)
    (hrd:∀id∈e.rd,∀b k,β id=some b->S.blk id=some k->y9 β x b k):D6 P o a x n e β Q:=by
  unfold uF at h
  split at h
  · rename_i id off cp hv1 hv2
    rw[hv1] at hy
    rw[hv2] at hz
    obtain ⟨b,hb,hy⟩:=hy
    split at h
    · rename_i k m hk hsz
      obtain ⟨hk,hnq⟩:=O5 hk
      split at h
      · rename_i hm
        split at h
        · rename_i os hos
          cases h
          have hm:=Nat.eq_of_beq_eq_true hm
          obtain ⟨hob,hwh⟩:=Q5.append.1 hob
          have hlt:=z8 hos hob (fun q=>Nat.le_of_ble_eq_true q)
          have hB:=hrd id (by simp) b k hb hk
          have hcs:=Cp.den_cells hz
          have hwc:=b3u hwh hm
          have hcl:=hcs.length
          have hrun:(Instr.storeAt t (a.eval y) (a.eval z)).run P x=.ok () (x.setCells b off (a.eval z).cells.toList):=by
            rw[hy]
            have hth:=hB.there hnq (i:=off) (n:=m) hlt
            have h1:=run_storeCells_cells (P:=P) b off (a.eval z).cells.toList 0 x (fun j hj=>by simpa using (hth j (by omega)).1) (fun j hj=>by simpa using (hth j (by omega)).2) (gX hcs)
            have h2 : (a.eval z).cells.size = m := by have : (a.eval z).cells.toList.length = m := by omega
                                                      simpa using this
            simp only[Nat.add_zero] at h1
            simp[Instr.storeAt,Instr.sureAddr,storeVar,Q6 hsz,h2,h1]
          unfold D6 Oper.wp
          have hx:execOp a.eval o=(do Instr.storeAt t (a.eval y) (a.eval z);pure Next.skip):=by unfold execOp;rw[ho]
          rw[hx]
          have:(do Instr.storeAt t (a.eval y) (a.eval z);pure Next.skip:Sem Next).run P x=.ok .skip (x.setCells b off (a.eval z).cells.toList):=by simp[Sem.run_bind,hrun]
          rw[this,Oper.upon_skip]
          obtain ⟨i1,i2,i3⟩:=bN b (a.eval z).cells.toList off x
          refine ⟨_,β,rfl,trivial,Ext.refl β,fun _ _ h=>.inl h,fun _ _ h=>.inl h,hw.inj,fun i c hc=>by rw[K0];exact hw.lt i c hc,i1,i2,i3,by rw[K0];exact Nat.le_refl _,?_,?_⟩
          · intro q hq hne
            refine T6 b ?_ _ _ _
            intro e
            subst e
            have:=hne id hb
            rw[o5] at this
            cases this
          · intro id' b' k' hb' hk'
            have e:id'=id:=by
              have:=M3 hk'
              simp only[List.mem_singleton,Prod.mk.injEq] at this;exact this.1
            subst e
            rw[o5] at hk'
            cases hk'
            rw[hb] at hb'
            cases hb'
            have:=hB.store hnq (i:=off) (m:=cp.cells) (by omega) hcs
            rw[<-hwc] at this
            exact this
        · cases h
      · cases h
    · cases h
  · cases h
theorem S4 {raw:Bool} {k:IntKind} {n:Int} (h:Q5 (aU raw k n).2):(aU raw k n).1.den β (.int k (k.wrap n)):=by
 unfold aU at h⊢
 split
 ·simp only at h
  exact L1.2 (by rw[h.1])
 ·exact L1.2 rfl
theorem b3k {raw:Bool} {op:BinOp} {t:Nat} {k:IntKind} {m n:Int} {v:SV} {os:List Prop} (hs:fV op=false) (h:Sy raw op k m n=some (v,os)) (ho:Q5 os) (w:World) :
  ∃y,(binOp op t (.int k m) (.int k n)).run P w=.ok y w/\v.den β y:=by
 have hk:∀s1 s2:Sem Value,(if k≠k then s1 else s2)=s2:=fun _ _=>if_neg (fun h=>h rfl)
 cases op<;>simp only[fV,Bool.true_eq_false] at hs<;>simp only[Sy,Option.some.injEq,Prod.mk.injEq,reduceCtorEq] at h
 case add=>
  obtain ⟨rfl,rfl⟩:v=_/\os=_:=⟨(congrArg Prod.fst h).symm,(congrArg Prod.snd h).symm⟩
  exact ⟨_,by show ((if k≠k then _ else _):Sem Value).run P w=_;rw[hk];rfl,S4 ho⟩
 case sub=>
  obtain ⟨rfl,rfl⟩:v=_/\os=_:=⟨(congrArg Prod.fst h).symm,(congrArg Prod.snd h).symm⟩
  exact ⟨_,by show ((if k≠k then _ else _):Sem Value).run P w=_;rw[hk];rfl,S4 ho⟩
 case mul=>
  obtain ⟨rfl,rfl⟩:v=_/\os=_:=⟨(congrArg Prod.fst h).symm,(congrArg Prod.snd h).symm⟩
  exact ⟨_,by show ((if k≠k then _ else _):Sem Value).run P w=_;rw[hk];rfl,S4 ho⟩
 case quo=>
  obtain ⟨rfl,rfl⟩:=h
  exact ⟨_,by show ((if k≠k then _ else _):Sem Value).run P w=_;rw[hk];show (Op.intDiv _ _ _ _).run P w=_;unfold Op.intDiv;rw[if_neg ho.1];rfl,S4 ho.2⟩
 case rem=>
  obtain ⟨rfl,rfl⟩:=h
  exact ⟨_,by show ((if k≠k then _ else _):Sem Value).run P w=_;rw[hk];show (Op.intDiv _ _ _ _).run P w=_;unfold Op.intDiv;rw[if_neg ho.1];rfl,L1.2 rfl⟩
 case and=>
  obtain ⟨rfl,rfl⟩:=h
  exact ⟨_,by show ((if k≠k then _ else _):Sem Value).run P w=_;rw[hk];rfl,L1.2 rfl⟩
 case or=>
  obtain ⟨rfl,rfl⟩:=h
  exact ⟨_,by show ((if k≠k then _ else _):Sem Value).run P w=_;rw[hk];rfl,L1.2 rfl⟩
 case xor=>
  obtain ⟨rfl,rfl⟩:=h
  exact ⟨_,by show ((if k≠k then _ else _):Sem Value).run P w=_;rw[hk];rfl,L1.2 rfl⟩
 case andNot=>
  obtain ⟨rfl,rfl⟩:=h
  exact ⟨_,by show ((if k≠k then _ else _):Sem Value).run P w=_;rw[hk];rfl,L1.2 rfl⟩
 case eql=>
  obtain ⟨rfl,rfl⟩:=h
  exact ⟨_,by show ((if k≠k then _ else _):Sem Value).run P w=_;rw[hk];rfl,F3.2 rfl⟩
 case neq=>
  obtain ⟨rfl,rfl⟩:=h
  exact ⟨_,by show ((if k≠k then _ else _):Sem Value).run P w=_;rw[hk];rfl,F3.2 rfl⟩
 case lss=>
  obtain ⟨rfl,rfl⟩:=h
  exact ⟨_,by show ((if k≠k then _ else _):Sem Value).run P w=_;rw[hk];rfl,F3.2 rfl⟩
 case leq=>
  obtain ⟨rfl,rfl⟩:=h
  exact ⟨_,by show ((if k≠k then _ else _):Sem Value).run P w=_;rw[hk];rfl,F3.2 rfl⟩
 case gtr=>
  obtain ⟨rfl,rfl⟩:=h
  exact ⟨_,by show ((if k≠k then _ else _):Sem Value).run P w=_;rw[hk];rfl,F3.2 rfl⟩
 case geq=>
  obtain ⟨rfl,rfl⟩:=h
  exact ⟨_,by show ((if k≠k then _ else _):Sem Value).run P w=_;rw[hk];rfl,F3.2 rfl⟩
theorem Lw {raw:Bool} {op:BinOp} {t:Nat} {k k':IntKind} {m n:Int} {v:SV} {os:List Prop} (hs:fV op=true) (h:uA raw op k m n=some (v,os)) (ho:Q5 os) (w:World) :
  ∃y,(binOp op t (.int k m) (.int k' n)).run P w=.ok y w/\v.den β y:=by
 cases op<;>simp only[fV,Bool.false_eq_true] at hs<;>simp only[uA,Option.some.injEq,Prod.mk.injEq,reduceCtorEq] at h
 case shl=>
  obtain ⟨rfl,rfl⟩:=h
  have h0:¬n<0:=by have:=ho.1;omega
  exact ⟨_,by simp[binOp,Op.shift,h0],S4 ho.2⟩
 case shr=>
  obtain ⟨rfl,rfl⟩:=h
  have h0:¬n<0:=by have:=ho.1;omega
  exact ⟨_,by simp[binOp,Op.shift,h0],L1.2 rfl⟩
theorem Mg {op:BinOp} {t:Nat} {p q:Operand} {y z:Value} (hy:y.oneCell'=true) (h1:∀t v,y≠.iface t v) (h2:y≠.nilIface) (w:World) {s:Sem Value}:(do eqGuard op t p q y z;s:Sem Value).run P w=s.run P w:=by
 have:(eqGuard op t p q y z).run P w=.ok () w:=by
  unfold eqGuard
  cases op<;>simp<;>cases y<;>simp_all [Value.oneCell']
 simp[Sem.run_bind,this]
theorem a7d {n:Nat} {op:BinOp} {t t':Nat} {y z:Operand} (hw:Wf β x) (ho:o.op=.binOp op t y z t') (hy:(D7 S y).den β (a.eval y)) (hz:(D7 S z).den β (a.eval z)) (h:Qv P cx (o.dst.getD 0) op t (D7 S y) (D7 S z)=some e) (hob:Q5 e.obs):D6 P o a x n e β Q:=by
 have hx:execOp a.eval o=(do pure (Next.value (<-(do eqGuard op t y z (a.eval y) (a.eval z);binOp op t (a.eval y) (a.eval z))))):=by unfold execOp;rw[ho]
 unfold Qv at h
 split at h
 ·rename_i k m k' n hv1 hv2
  rw[hv1] at hy
  rw[hv2] at hz
  obtain ⟨hy,_⟩:=hy
  obtain ⟨hz,_⟩:=hz
  rw[hy,hz] at hx
  split at h
  ·rename_i hs
   split at h
   ·rename_i v os hos
    cases h
    obtain ⟨r,hr,hd⟩:=Lw (P:=P) (β:=β) (t:=t) (k':=k') hs hos hob x
    exact t8 hw hx (by rw[Mg rfl (by simp) (by simp)];exact hr) hd rfl
   ·cases h
  ·rename_i hs
   split at h
   ·rename_i hk
    have hk:=of_decide_eq_true hk
    subst hk
    split at h
    ·rename_i v os hos
     cases h
     obtain ⟨r,hr,hd⟩:=b3k (P:=P) (β:=β) (t:=t) hs hos hob x
     exact t8 hw hx (by rw[Mg rfl (by simp) (by simp)];exact hr) hd rfl
    ·cases h
   ·cases h
 ·rename_i s1 s2 hv1 hv2
  rw[hv1] at hy
  rw[hv2] at hz
  obtain ⟨hy,_⟩:=hy
  obtain ⟨hz,_⟩:=hz
  rw[hy,hz] at hx
  split at h
  ·cases h
   have h0:¬((s1.size+s2.size:Nat):Int)>IntKind.i64.max:=by have:=hob.1;omega
   exact t8 hw hx (y:=.string (s1++s2)) (by rw[Mg rfl (by simp) (by simp)];simp only[binOp,Op.stringOp,if_neg h0];rfl) ⟨rfl,rfl⟩ rfl
  ·cases h
   exact t8 hw hx (by rw[Mg rfl (by simp) (by simp)];simp only[binOp,Op.stringOp];rfl) (F3.2 rfl) rfl
  ·cases h
   exact t8 hw hx (by rw[Mg rfl (by simp) (by simp)];simp only[binOp,Op.stringOp];rfl) (F3.2 rfl) rfl
  ·cases h
 ·rename_i b1 b2 hv1 hv2
  rw[hv1] at hy
  rw[hv2] at hz
  obtain ⟨hy,_⟩:=hy
  obtain ⟨hz,_⟩:=hz
  rw[hy,hz] at hx
  split at h
  ·rename_i hu
   have heq:(Op.equal t (.bool b1) (.bool b2)).run P x=.ok (b1==b2) x:=by
    show (Op.equalIn (9999+1) t (.bool b1) (.bool b2)).run P x=_
    unfold Op.equalIn
    simp[Sem.run_bind,run_underlying hu]
   split at h
   ·cases h
    exact t8 hw hx (by rw[Mg rfl (by simp) (by simp)];simp[binOp,heq]) (F3.2 rfl) rfl
   ·cases h
    exact t8 hw hx (by rw[Mg rfl (by simp) (by simp)];simp[binOp,heq]) (F3.2 rfl) rfl
   ·cases h
  ·cases h
 ·rename_i i1 o1 hv1 hv2
  rw[hv1] at hy
  rw[hv2] at hz
  obtain ⟨bb,hbb,hy⟩:=hy
  obtain ⟨hz,_⟩:=hz
  rw[hy,hz] at hx
  split at h
  ·rename_i te hu
   have heq:(Op.equal t (.pointer (some ⟨bb,o1,none⟩)) (.pointer none)).run P x=.ok false x:=by
    show (Op.equalIn (9999+1) t _ _).run P x=_
    unfold Op.equalIn
    simp[Sem.run_bind,run_underlying hu]
   split at h
   ·cases h
    exact t8 hw hx (by rw[Mg rfl (by simp) (by simp)];simp[binOp,heq]) (F3.2 rfl) rfl
   ·cases h
    exact t8 hw hx (by rw[Mg rfl (by simp) (by simp)];simp[binOp,heq]) (F3.2 rfl) rfl
   ·cases h
  ·cases h
 ·rename_i hv1 hv2
  rw[hv1] at hy
  rw[hv2] at hz
  obtain ⟨hy,_⟩:=hy
  obtain ⟨hz,_⟩:=hz
  rw[hy,hz] at hx
  split at h
  ·rename_i te hu
   have heq:(Op.equal t (.pointer none) (.pointer none)).run P x=.ok true x:=by
    show (Op.equalIn (9999+1) t _ _).run P x=_
    unfold Op.equalIn
    simp[Sem.run_bind,run_underlying hu]
   split at h
   ·cases h
    exact t8 hw hx (by rw[Mg rfl (by simp) (by simp)];simp[binOp,heq]) (F3.2 rfl) rfl
   ·cases h
    exact t8 hw hx (by rw[Mg rfl (by simp) (by simp)];simp[binOp,heq]) (F3.2 rfl) rfl
   ·cases h
  ·cases h
 ·rename_i xs ys hv1 hv2
  rw[hv1] at hy
  rw[hv2] at hz
  obtain ⟨us,hy,hu⟩:=hy
  obtain ⟨vs,hz,hv⟩:=hz
  rw[hy,hz] at hx
  split at h
  ·rename_i q hq
   split at h
   ·cases h
    exact t8 hw hx (hob.1 β us vs y z x hu hv).1 (F3.2 rfl) rfl
   ·cases h
    exact t8 hw hx (hob.1 β us vs y z x hu hv).2 (F3.2 rfl) rfl
   ·cases h
  ·cases h
 ·cases h
end
end Ab
namespace Ab
section
variable {P:Program} {cx:Cx} {S:St} {β:Bt} {a:Act} {x:World} {o:Oper} {e:Eff} {Q:Exit->Act->World->Prop}
theorem fG:∀(cs:List Value) (j:Nat) (B3:Array Value) (off:Nat),((cs.zipIdx j).foldl (fun (cs:Array Value) (p:Value×Nat)=>cs.setIfInBounds (off+p.2) p.1) B3).toList=j4 B3.toList (off+j) cs
 |[],j,B3,off=>rfl
 |c::cs,j,B3,off=>by
  rw[List.zipIdx_cons,List.foldl_cons,fG cs (j+1)]
  simp only[Array.toList_setIfInBounds]
  rfl
theorem T4 (place : Nat -> Option (Nat × Nat)) : ∀ (ps : List (Nat × SV)) (qs : List (Nat × Value)) (cs : List Leaf) (ys : Array Value) (xs : List Leaf), r9 (fun (p : Nat × SV) q => p.1 = q.1 /\ p.2.den β q.2) ps qs -> r9 (Leaf.den β) cs ys.toList -> jP place cs ps = some xs ->
    ∃zs,Instr.fill place ys qs=some zs/\r9 (Leaf.den β) xs zs.toList
  | [], [], cs, ys, xs, _, hc, h => by
    simp only[jP,Option.some.injEq] at h;subst h
    exact ⟨ys,rfl,hc⟩
  | (i, v) :: ps, (j, y) :: qs, cs, ys, xs, hp, hc, h => by
    obtain ⟨⟨hij,hv⟩,hp⟩:=hp
    simp only at hij;subst hij
    unfold jP at h
    split at h
    · rename_i _ off size cp hpl
      have hcs:r9 (Leaf.den β) cp.cells y.cells.toList:=Cp.den_cells (x:=cp) hv
      have hcl:=hcs.length
      have hyl:=hc.length
      split at h
      · rename_i h1 h2
        have h1:=Nat.eq_of_beq_eq_true h1
        have h2:=Nat.le_of_ble_eq_true h2
        have e1 : y.cells.size = size := by have : y.cells.toList.length = size := by omega
                                            simpa using this
        have hcl':cp.cells.length=y.cells.size:=by simpa using hcl
        have e2 : ¬ off + y.cells.size > ys.size := by have : ys.toList.length = cs.length := hyl.symm
                                                       simp at this;omega
        have hf:(y.cells.zipIdx.foldl (fun cs (p:Value×Nat)=>cs.setIfInBounds (off+p.2) p.1) ys).toList=j4 ys.toList off y.cells.toList:=by
          rw[<-Array.foldl_toList,Array.toList_zipIdx]
          exact fG _ 0 ys off
        obtain ⟨zs,hz1,hz2⟩:=T4 place ps qs _ (y.cells.zipIdx.foldl (fun cs (p:Value×Nat)=>cs.setIfInBounds (off+p.2) p.1) ys) xs hp (by rw[hf];exact hc.splice off hcs) h
        refine ⟨zs,?_,hz2⟩
        unfold Instr.fill
        rw[hpl]
        simp only[e1,ne_eq,not_true_eq_false,decide_false,Bool.false_or]
        rw[if_neg (by simpa [e1] using e2)]
        exact hz1
      · cases h
    · cases h
theorem jV:∀(fs:List Field) {pl:List (Nat×Nat)},places P fs=some pl->fs.mapM (fun f=>(P.info? f.type).map fun i=>(f.offset,i.size))=some pl
 |[],pl,h=>by simp only[places,Option.some.injEq] at h;subst h;rfl
 |f::fs,pl,h=>by
  unfold places at h
  split at h
  ·rename_i n l hn hl
   cases h
   have:=gJ hn
   cases hi:P.info? f.type with
   |none=>rw[hi] at this;cases this
   |some i=>
    rw[hi] at this
    simp only[Option.map_some,Option.some.injEq] at this
    simp[List.mapM_cons,hi,jV fs hl,this]
  ·cases h
theorem jE {β:Bt}:∀ {ps:List (Nat×Operand)},(∀p∈ps,(D7 S p.2).den β (a.eval p.2))->r9 (fun (p:Nat×SV) q=>p.1=q.1/\p.2.den β q.2) (ps.map fun p=>(p.1,D7 S p.2)) (ps.map fun (i,y)=>(i,a.eval y))
 |[],_=>trivial
 |p::ps,h=>⟨⟨rfl,h p (by simp)⟩,jE fun q hq=>h q (by simp[hq])⟩
theorem Nl {n:Nat} {t:Nat} {parts:Array (Nat×Operand)} (hw:Wf β x) (ho:o.op=.build t parts) (hp:∀p∈parts.toList,(D7 S p.2).den β (a.eval p.2)) (h:sX P S t parts.toList=some e):D6 P o a x n e β Q:=by
 have hx:execOp a.eval o=(do pure (Next.value (<-Instr.build t (parts.map fun (i,y)=>(i,a.eval y))))):=by unfold execOp;rw[ho]
 have hpd:=jE (S:=S) (a:=a) hp
 have hpl:(parts.map fun (i,y)=>(i,a.eval y)).toList=parts.toList.map fun (i,y)=>(i,a.eval y):=by simp
 have fin:∀(xs:List Leaf) (zs:Array Value),P.built t (parts.toList.map fun (i,y)=>(i,a.eval y))=some zs->r9 (Leaf.den β) xs zs.toList->e={v:=.c (.agg xs)}->D6 P o a x n e β Q:=by
  rintro xs zs hb hd rfl
  exact t8 hw hx (run_build x t _ zs (by rw[hpl];exact hb)) ⟨zs.toList,by simp,hd⟩ rfl
 unfold sX at h
 split at h
 ·rename_i fs z hu hz
  obtain ⟨v,hv,hzv,hl⟩:=eV hz
  split at h
  ·rename_i pl hpl'
   split at h
   ·rename_i xs hxs
    cases h
    obtain ⟨zs,h1,h2⟩:=T4 (β:=β) (fun i=>pl[i]?) _ _ z v.cells xs hpd (hzv▸iI hl) hxs
    refine fin xs zs ?_ h2 rfl
    unfold Program.built
    cases hi:P.info? t with
    |none=>unfold zc at hz;rw[hi] at hz;cases hz
    |some it=>
     have hzz:it.zero=some v:=by
      unfold zc at hz;rw[hi] at hz
      cases hq:it.zero with
      |none=>simp only[hq] at hz;cases hz
      |some v'=>
       have:=hv x
       simp[zeroValue,typeInfo,hi,hq] at this
       rw[this]
     simp only[hu,hzz,jV fs.toList hpl']
     simpa using h1
   ·cases h
  ·cases h
 ·rename_i ln el z hu hz
  obtain ⟨v,hv,hzv,hl⟩:=eV hz
  split at h
  ·rename_i m hm
   split at h
   ·rename_i xs hxs
    cases h
    obtain ⟨zs,h1,h2⟩:=T4 (β:=β) (fun i=>some (i*m,m)) _ _ z v.cells xs hpd (hzv▸iI hl) hxs
    refine fin xs zs ?_ h2 rfl
    unfold Program.built
    cases hi:P.info? t with
    |none=>unfold zc at hz;rw[hi] at hz;cases hz
    |some it=>
     have hzz:it.zero=some v:=by
      unfold zc at hz;rw[hi] at hz
      cases hq:it.zero with
      |none=>simp only[hq] at hz;cases hz
      |some v'=>
       have:=hv x
       simp[zeroValue,typeInfo,hi,hq] at this
       rw[this]
     have:=gJ hm
     cases hie:P.info? el with
     |none=>rw[hie] at this;cases this
     |some ie=>
      rw[hie] at this
      simp only[Option.map_some,Option.some.injEq] at this
      simp only[hu,hzz,hie,this]
      exact h1
   ·cases h
  ·cases h
 ·cases h
theorem extract_toList (ys:List Value) (i n:Nat):(ys.toArray.extract i (i+n))=((ys.drop i).take n).toArray:=by
 apply Array.ext'
 simp[List.extract_eq_take_drop,Nat.add_sub_cancel_left]
theorem Co {t:Nat} {xs:List Leaf} {ys:List Value} {off:Nat} {v:SV} (h:lE P t xs off=some v) (hd:r9 (Leaf.den β) xs ys) (w:World):∃y,(part t ys.toArray off).run P w=.ok y w/\v.den β y:=by
 unfold lE at h
 split at h
 ·rename_i n hag hsz
  cases h
  refine ⟨.agg ((ys.drop off).take n).toArray,?_,_,rfl,(hd.drop off).take n⟩
  simp[part,V0 hag,Q6 hsz,extract_toList]
 ·rename_i hag
  split at h
  ·rename_i hlt
   cases h
   have hlt:off<xs.length:=Nat.le_of_ble_eq_true hlt
   obtain ⟨y,hy,hyd⟩:=hd.get (Z2 hlt)
   refine ⟨y,?_,hyd⟩
   simp[part,V0 hag,hy]
  ·cases h
 ·cases h
theorem Z0 {i:Int} {n:Nat} (h:inR i n=true):t0 i n:=by
 unfold inR at h
 split at h
 ·rename_i k
  have:k<n:=Nat.le_of_ble_eq_true h
  exact ⟨by simp,by simpa using this⟩
 ·cases h
theorem Lm {n:Nat} {t:Nat} {y z:Operand} (hw:Wf β x) (ho:o.op=.index t y z) (hy:(D7 S y).den β (a.eval y)) (hz:(D7 S z).den β (a.eval z)) (h:sN P cx (o.dst.getD 0) t (D7 S y) (D7 S z)=some e) (hob:Q5 e.obs):D6 P o a x n e β Q:=by
 have hx:execOp a.eval o=(do pure (Next.value (<-Instr.index t (a.eval y) (a.eval z)))):=by unfold execOp;rw[ho]
 unfold sN at h
 split at h
 ·rename_i xs k i hv1 hv2
  rw[hv1] at hy
  rw[hv2] at hz
  obtain ⟨ys,hy,hd⟩:=hy
  obtain ⟨hz,_⟩:=hz
  rw[hy,hz] at hx
  split at h
  ·rename_i ln el hu
   split at h
   ·rename_i m hsz hag
    split at h
    ·rename_i os hos
     cases h
     have hr:=z8 hos hob Z0
     refine t8 hw hx (y:=.agg ((ys.drop (i.toNat*m)).take m).toArray) ?_ ⟨_,rfl,(hd.drop _).take _⟩ rfl
     have hr':0<=i/\i<ln:=hr
     simp[Instr.index,asIntOf,run_underlying hu,hr',Q6 hsz,part,V0 hag,extract_toList]
    ·cases h
   ·rename_i m hsz hag
    split at h
    ·rename_i os hos
     cases h
     have hr:=z8 hos hob (fun q=>by
      simp only[Bool.and_eq_true] at q
      exact ⟨Z0 q.1,Nat.le_of_ble_eq_true q.2⟩)
     have hr':0<=i/\i<ln:=hr.1
     obtain ⟨y',hy',hyd⟩:=hd.get (Z2 hr.2)
     refine t8 hw hx (y:=y') ?_ hyd rfl
     simp[Instr.index,asIntOf,run_underlying hu,hr',Q6 hsz,part,V0 hag,hy']
    ·cases h
   ·cases h
  ·cases h
 ·rename_i s k i hv1 hv2
  rw[hv1] at hy
  rw[hv2] at hz
  obtain ⟨hy,_⟩:=hy
  obtain ⟨hz,_⟩:=hz
  rw[hy,hz] at hx
  split at h
  ·rename_i hu
   split at h
   ·rename_i os hos
    cases h
    have hr:=z8 hos hob Z0
    have hr':0<=i/\i<s.size:=hr
    have hlt:i.toNat<s.size:=by omega
    have hg:s[i.toNat]? = some (s.get! i.toNat):=by
     rw[getElem?_pos s i.toNat hlt]
     congr 1
     show s.data[i.toNat]=s.data[i.toNat]!
     rw[getElem!_pos s.data i.toNat hlt]
    refine t8 hw hx (y:=.int .u8 (s.get! i.toNat).toNat) ?_ (L1.2 rfl) rfl
    simp only[Instr.index,asIntOf,Sem.run_bind,Sem.run_pure,Result.andThen_ok,run_underlying hu,if_pos hr'.1,hg]
   ·cases h
  ·cases h
 ·cases h
theorem sI {n:Nat} {t:Nat} {y z:Operand} (hw:Wf β x) (ho:o.op=.indexAddr t y z) (hy:(D7 S y).den β (a.eval y)) (hz:(D7 S z).den β (a.eval z)) (h:bP P cx (o.dst.getD 0) t (D7 S y) (D7 S z)=some e) (hob:Q5 e.obs):D6 P o a x n e β Q:=by
 have hx:execOp a.eval o=(do pure (Next.value (<-Instr.indexAt t (a.eval y) (a.eval z)))):=by unfold execOp;rw[ho]
 unfold bP at h
 split at h
 ·rename_i id off k i hv1 hv2
  rw[hv1] at hy
  rw[hv2] at hz
  obtain ⟨b,hb,hy⟩:=hy
  obtain ⟨hz,_⟩:=hz
  rw[hy,hz] at hx
  split at h
  ·rename_i ln el hu
   split at h
   ·rename_i m hsz
    split at h
    ·rename_i os hos
     cases h
     have hr:=z8 hos hob Z0
     have hr':0<=i/\i<ln:=hr
     refine t8 hw hx (y:=.pointer (some ⟨b,off+i.toNat*m,none⟩)) ?_ ⟨b,hb,rfl⟩ rfl
     simp[Instr.indexAt,asIntOf,run_underlying hu,Instr.sureAddr,hr',Q6 hsz,Addr.add_mid]
    ·cases h
   ·cases h
  ·cases h
 ·rename_i id off len k i hv1 hv2
  rw[hv1] at hy
  rw[hv2] at hz
  obtain ⟨b,cap,hb,hcap,hy⟩:=hy
  obtain ⟨hz,_⟩:=hz
  rw[hy,hz] at hx
  split at h
  ·rename_i el hu
   split at h
   ·rename_i m hsz
    split at h
    ·rename_i os hos
     cases h
     have hr:=z8 hos hob Z0
     have hr':0<=i/\i<len:=hr
     refine t8 hw hx (y:=.pointer (some ⟨b,off+i.toNat*m,none⟩)) ?_ ⟨b,hb,rfl⟩ rfl
     simp[Instr.indexAt,asIntOf,run_underlying hu,Instr.sureAddr,hr',Q6 hsz,Addr.add_mid]
    ·cases h
   ·cases h
  ·cases h
 ·rename_i id len k i hv1 hv2
  rw[hv1] at hy
  rw[hv2] at hz
  obtain ⟨hz,_⟩:=hz
  split at h
  ·rename_i el hu
   split at h
   ·rename_i m hsz
    split at h
    ·rename_i os hos
     cases h
     have hr:=z8 hos hob Z0
     have hr':0<=i/\i<len:=hr
     rcases hy with ⟨hl,_,_⟩|⟨b,cap,hb,_,hcap,hy⟩
     ·omega
     rw[hy,hz] at hx
     refine t8 hw hx (y:=.pointer (some ⟨b,0+i.toNat*m,none⟩)) ?_ ⟨b,hb,by rw[Nat.zero_add]⟩ rfl
     simp[Instr.indexAt,asIntOf,run_underlying hu,Instr.sureAddr,hr',Q6 hsz,Addr.add_mid]
    ·cases h
   ·cases h
  ·cases h
 ·cases h
theorem uJ {n:Nat} {t i:Nat} {y:Operand} {fs:Array Field} {f:Field} {id off m:Nat} (hw:Wf β x) (ho:o.op=.fieldAddr t y i) (hu:P.underlying t=some (.struct fs)) (hf:fs.toList[i]? = some f) (hs:qJ P f.type=some (m+1))
  (hy:(Leaf.p id off).den β (a.eval y)) (he:e={v:=.c (.l (.p id (off+f.offset)))}):D6 P o a x n e β Q:=by
 obtain ⟨b,hb,hy⟩:=hy
 have hx:execOp a.eval o=(do pure (Next.value (<-Instr.fieldAt t (a.eval y) i))):=by unfold execOp;rw[ho]
 rw[hy] at hx
 subst he
 refine t8 hw hx (y:=.pointer (some ⟨b,off+f.offset,none⟩)) ?_ ⟨b,hb,rfl⟩ rfl
 have hf':fs[i]? = some f:=by simpa using hf
 simp[Instr.fieldAt,run_underlying hu,hf',Instr.sureAddr,fieldPlace,Q6 hs,Addr.add_mid]
theorem Qe {n:Nat} {t i:Nat} {y:Operand} {fs:Array Field} {f:Field} {xs:List Leaf} {v:SV} (hw:Wf β x) (ho:o.op=.field t y i) (hu:P.underlying t=some (.struct fs)) (hf:fs.toList[i]? = some f) (hv:lE P f.type xs f.offset=some v)
  (hy:(Cp.agg xs).den β (a.eval y)) (he:e={v:=v}):D6 P o a x n e β Q:=by
 obtain ⟨ys,hy,hd⟩:=hy
 have hx:execOp a.eval o=(do pure (Next.value (<-Instr.field t (a.eval y) i))):=by unfold execOp;rw[ho]
 rw[hy] at hx
 subst he
 obtain ⟨r,hr,hrd⟩:=Co (P:=P) hv hd x
 have hf':fs[i]? = some f:=by simpa using hf
 refine t8 hw hx (y:=r) ?_ hrd rfl
 simp[Instr.field,run_underlying hu,hf',asAgg,hr]
theorem Ua {n:Nat} {c p q:Operand} (hw:Wf β x) (ho:o.op=.pick c p q) (hc:(D7 S c).den β (a.eval c)) (hp:(D7 S p).den β (a.eval p)) (hq:(D7 S q).den β (a.eval q)) (h:Cn (D7 S c) (D7 S p) (D7 S q)=some e) (hob:Q5 e.obs):D6 P o a x n e β Q:=by
 have hx:execOp a.eval o=(do pure (Next.value (<-(do pure (if <-asBool (a.eval c) then a.eval p else a.eval q))))):=by
  unfold execOp;rw[ho];simp
 have part:∀(s:SV) (y:Value) (b:Bool) (d:Option Bool),Fe s=some (.v (.bool b),d)->s.den β y->(∀d',d=some d'->d'=true)->y=.bool b:=by
  intro s y b d hs hd hh
  unfold Fe at hs
  split at hs
  ·cases hs;exact hd.1
  ·cases hs;exact (hd.1 (hh _ rfl)).1
  ·cases hs
 unfold Cn at h
 split at h
 ·rename_i r xa da xb db hv1 hv2 hv3
  cases h
  rw[hv1] at hc
  obtain ⟨hc,_⟩:=hc
  have ho':=Q5.append.1 hob
  cases r with
  |true=>
   have e1:=part _ _ _ _ hv2 hp (fun d' hd'=>by subst hd';exact ho'.1.1 rfl)
   refine t8 hw hx (y:=.bool xa) ?_ (F3.2 rfl) rfl
   simp[hc,asBool,e1]
  |false=>
   have e1:=part _ _ _ _ hv3 hq (fun d' hd'=>by subst hd';exact ho'.2.1 rfl)
   refine t8 hw hx (y:=.bool xb) ?_ (F3.2 rfl) rfl
   simp[hc,asBool,e1]
 ·cases h
theorem Om {f:Int->Int->Int} {k:IntKind} {m:Int} {s:SV} {l:List SV} {v:SV} (h:mmf f k m (s::l)=some v):∃k' b,s=iv k' b/\mmf f k (f m b) l=some v:=by
 unfold mmf at h
 split at h
 ·rename_i heq;cases heq
 ·rename_i heq;cases heq;exact ⟨_,_,rfl,h⟩
 ·cases h
theorem iT {f:Int->Int->Int} {m2:Value->Value->Sem Value} (hm:∀k x k' y (w:World),(m2 (.int k x) (.int k' y)).run P w=.ok (.int k (f x y)) w) (k:IntKind):∀(l:List SV) (ys:List Value) (m:Int) (v:SV) (w:World),r9 (SV.den β) l ys->mmf f k m l=some v->
  ∃y,(ys.foldlM m2 (.int k m)).run P w=.ok y w/\v.den β y
 |[],[],m,v,w,_,h=>by simp only[mmf,Option.some.injEq] at h;subst h;exact ⟨.int k m,rfl,L1.2 rfl⟩
 |s::l,y::ys,m,v,w,hd,h=>by
  obtain ⟨k',b,rfl,h⟩:=Om h
  obtain ⟨⟨hy,_⟩,hd⟩:=hd
  obtain ⟨r,hr,hrd⟩:=iT hm k _ ys (f m b) v w hd h
  refine ⟨r,?_,hrd⟩
  rw[hy,List.foldlM_cons,Sem.run_bind,hm]
  exact hr
theorem gD {β:Bt}:∀ {ps:List Operand},(∀p∈ps,(D7 S p).den β (a.eval p))->r9 (SV.den β) (ps.map (D7 S)) (ps.map a.eval)
 |[],_=>trivial
 |p::ps,h=>⟨h p (by simp),gD fun q hq=>h q (by simp[hq])⟩
theorem Bv {n:Nat} {c:Call} {b:Builtin} (hw:Wf β x) (ho:o.op=.call c) (hb:c.callee=.builtin b) (hp:∀p∈c.args.toList,(D7 S p).den β (a.eval p)) (h:iN P b c.argTypes.toList (c.args.toList.map (D7 S))=some e):D6 P o a x n e β Q:=by
 have hx:execOp a.eval o=builtin b c.argTypes o.type (c.args.map fun | .const _=>true|_=>false) (c.args.map a.eval):=by
  unfold execOp;rw[ho];simp only[resolve,hb];rfl
 have hd:=gD (S:=S) (a:=a) hp
 have hl:(c.args.map a.eval).toList=c.args.toList.map a.eval:=by simp
 unfold iN at h
 split at h
 ·split at h
  ·rename_i v hv
   cases h
   unfold mm at hv
   split at hv
   ·rename_i k m l heq
    rw[heq] at hd
    obtain ⟨y,hy⟩:∃y,c.args.toList.map a.eval=y:=⟨_,rfl⟩
    rw[hy] at hd
    cases y with
    |nil=>exact hd.elim
    |cons y ys=>
     obtain ⟨⟨h1,_⟩,hd⟩:=hd
     subst h1
     obtain ⟨r,hr,hrd⟩:=iT (P:=P) (f:=E7) (m2:=Builtin.min2) (fun k x k' y w=>by simp[Builtin.min2,E7]) k l ys m v x hd hv
     refine t8 hw (s:=Builtin.min_ c.argTypes o.type (c.args.map a.eval)) (by rw[hx];rfl) (y:=r) ?_ hrd rfl
     unfold Builtin.min_
     rw[hl,hy]
     exact hr
   ·cases hv
  ·cases h
 ·split at h
  ·rename_i v hv
   cases h
   unfold mm at hv
   split at hv
   ·rename_i k m l heq
    rw[heq] at hd
    obtain ⟨y,hy⟩:∃y,c.args.toList.map a.eval=y:=⟨_,rfl⟩
    rw[hy] at hd
    cases y with
    |nil=>exact hd.elim
    |cons y ys=>
     obtain ⟨⟨h1,_⟩,hd⟩:=hd
     subst h1
     obtain ⟨r,hr,hrd⟩:=iT (P:=P) (f:=F1) (m2:=Builtin.max2) (fun k x k' y w=>by simp[Builtin.max2,F1]) k l ys m v x hd hv
     refine t8 hw (s:=Builtin.max_ c.argTypes o.type (c.args.map a.eval)) (by rw[hx];rfl) (y:=r) ?_ hrd rfl
     unfold Builtin.max_
     rw[hl,hy]
     exact hr
   ·cases hv
  ·cases h
 ·have key:∀(t:Nat) (tys:List Nat) (y:Value),c.argTypes.toList=t::tys->c.args.toList.map a.eval=[y]->c.argTypes[0]? = some t/\(c.args.map a.eval)[0]? = some y:=by
   intro t tys y h1 h2
   constructor
   ·rw[<-Array.getElem?_toList,h1];rfl
   ·rw[<-Array.getElem?_toList,hl,h2];rfl
  split at h
  ·rename_i t tys s heq1 heq2
   rw[heq2] at hd
   split at h
   ·rename_i hu
    cases h
    obtain ⟨y,hy⟩:∃y,c.args.toList.map a.eval=y:=⟨_,rfl⟩
    rw[hy] at hd
    match y,hd with
    |[y],hd=>
     obtain ⟨⟨h1,_⟩,_⟩:=hd
     subst h1
     obtain ⟨k1,k2⟩:=key t tys _ heq1 hy
     refine t8 hw (s:=Builtin.len_ c.argTypes o.type (c.args.map a.eval)) (by rw[hx];rfl) (y:=.int .i64 s.size) ?_ (L1.2 rfl) rfl
     simp[Builtin.len_,k1,k2,run_underlying hu,goInt]
   ·cases h
  ·rename_i t tys id off m heq1 heq2
   rw[heq2] at hd
   split at h
   ·rename_i el hu
    cases h
    obtain ⟨y,hy⟩:∃y,c.args.toList.map a.eval=y:=⟨_,rfl⟩
    rw[hy] at hd
    match y,hd with
    |[y],hd=>
     obtain ⟨⟨b,cap,_,_,h1⟩,_⟩:=hd
     subst h1
     obtain ⟨k1,k2⟩:=key t tys _ heq1 hy
     refine t8 hw (s:=Builtin.len_ c.argTypes o.type (c.args.map a.eval)) (by rw[hx];rfl) (y:=.int .i64 m) ?_ (L1.2 rfl) rfl
     simp[Builtin.len_,k1,k2,run_underlying hu,goInt]
   ·cases h
  ·rename_i t tys so m cp heq1 heq2
   rw[heq2] at hd
   split at h
   ·rename_i el hu
    cases h
    obtain ⟨y,hy⟩:∃y,c.args.toList.map a.eval=y:=⟨_,rfl⟩
    rw[hy] at hd
    match y,hd with
    |[y],hd=>
     obtain ⟨⟨h1,_⟩,_⟩:=hd
     subst h1
     obtain ⟨k1,k2⟩:=key _ tys _ heq1 hy
     refine t8 hw (s:=Builtin.len_ c.argTypes o.type (c.args.map a.eval)) (by rw[hx];rfl) (y:=.int .i64 m) ?_ (L1.2 rfl) rfl
     simp[Builtin.len_,k1,k2,run_underlying hu,goInt]
   ·cases h
  ·rename_i t tys id m heq1 heq2
   rw[heq2] at hd
   split at h
   ·rename_i el hu
    cases h
    obtain ⟨y,hy⟩:∃y,c.args.toList.map a.eval=y:=⟨_,rfl⟩
    rw[hy] at hd
    match y,hd with
    |[y],hd=>
     obtain ⟨h1,_⟩:=hd
     have h1:∃ao cap,y=.slice ao m cap:=by
      rcases h1 with ⟨e,_,h1⟩|⟨b,cap,_,_,_,h1⟩
      ·subst e;exact ⟨_,_,h1⟩
      ·exact ⟨_,_,h1⟩
     obtain ⟨ao,cap,h1⟩:=h1
     subst h1
     obtain ⟨k1,k2⟩:=key t tys _ heq1 hy
     refine t8 hw (s:=Builtin.len_ c.argTypes o.type (c.args.map a.eval)) (by rw[hx];rfl) (y:=.int .i64 m) ?_ (L1.2 rfl) rfl
     simp[Builtin.len_,k1,k2,run_underlying hu,goInt]
   ·cases h
  ·cases h
 ·cases h
theorem eN {β:Bt}:∀l:List UInt8,r9 (Leaf.den β) (l.map fun b=>Leaf.v (.int .u8 (b.toNat:Int))) (l.map fun b=>Value.int .u8 (b.toNat:Int))
 |[]=>trivial
 |_::l=>⟨⟨rfl,rfl⟩,eN l⟩
theorem zW {e sz id:Nat} {t:BT} (h:isR e sz id t=true):t=.r e sz id:=by
 cases t with
 |t n=>cases h
 |y n=>cases h
 |e n=>cases h
 |x=>cases h
 |q=>cases h
 |r a b c=>
  simp only[isR,Bool.and_eq_true] at h
  rw[Nat.eq_of_beq_eq_true h.1,Nat.eq_of_beq_eq_true h.2.1,Nat.eq_of_beq_eq_true h.2.2]
theorem iJ {sym:Bool} {t sz:Nat} {v:SV} {y:Value} {r:Sr} (h:a3c P sym S t sz v=some r) (hy:v.den β y) (hob:Q5 r.obs) (hrd:∀id∈r.rd,∀b k,β id=some b->S.blk id=some k->y9 β x b k) :
  ∃news,Src P sz t y r.m news x/\r9 (Leaf.den β) r.cs news:=by
 unfold a3c at h
 split at h
 ·rename_i id off m
  obtain ⟨b,cap,hb,hcap,rfl⟩:=hy
  split at h
  ·rename_i el k hu hk
   obtain ⟨hk,hnq⟩:=O5 hk
   split at h
   ·rename_i os hos
    cases h
    have hlt:=z8 hos hob (fun q=>Nat.le_of_ble_eq_true q)
    obtain ⟨ys,hr,hl,hd⟩:=(hrd id (by simp) b k hb hk).range hnq hlt
    exact ⟨ys,Src.ofSlice x hu ⟨b,off,none⟩ m cap ys hl (fun j u hj=>by rw[Addr.add_lit];exact hr j u hj) (gX hd),hd⟩
   ·cases h
  ·cases h
 ·rename_i id m
  split at h
  ·rename_i el k hu hk
   obtain ⟨hk,hnq⟩:=O5 hk
   split at h
   ·rename_i os hos
    cases h
    have hlt:=z8 hos hob (fun q=>Nat.eq_of_beq_eq_true q)
    rcases hy with ⟨hm,_,rfl⟩|⟨b,cap,hb,_,hcap,rfl⟩
    ·subst hm
     rw[Nat.zero_mul] at hlt
     have hc:k.cs=[]:=List.eq_nil_of_length_eq_zero hlt.symm
     exact ⟨[],Src.ofNil x hu 0,by show r9 _ k.cs [];rw[hc];trivial⟩
    ·obtain ⟨ys,hr,hl,hd⟩:=(hrd id (by simp) b k hb hk).range hnq (i:=0) (n:=m*sz) (by omega)
     refine ⟨ys,Src.ofSlice x hu ⟨b,0,none⟩ m cap ys hl (fun j u hj=>by rw[Addr.add_lit];exact hr j u hj) (gX hd),?_⟩
     rw[hlt,List.drop_zero,List.take_length] at hd
     exact hd
   ·cases h
  ·cases h
 ·rename_i s
  obtain ⟨rfl,_⟩:=hy
  split at h
  ·rename_i hu
   cases h
   refine ⟨byteCells s,Src.ofString x hu s,?_⟩
   unfold A0 byteCells
   exact eN _
  ·cases h
 ·cases h
theorem qO {α:Type}:∀(m l z:List α),m.length<=z.length->Ab.j4 (l++z) l.length m=l++m++z.drop m.length
 |[],l,z,_=>by simp[Ab.j4]
 |a::m,l,[],h=>by simp at h
 |a::m,l,b::z,h=>by
  have:=qO m (l++[a]) z (by simpa using h)
  simp only[List.length_append,List.length_cons,List.length_nil,Nat.zero_add] at this
  rw[Ab.j4,List.set_append_right _ _ (Nat.le_refl _),Nat.sub_self,List.set_cons_zero,show l++a::z=l++[a]++z by simp,this]
  simp
theorem mN {t t2 el sz m len cap:Nat} {i:TypeInfo} {zv ya yb:Value} {base:Option Addr} {olds news:List Value} {oc nc:List Leaf} (hw:Wf β x) (hx:execOp a.eval o=(do pure (Next.value (<-Builtin.append_ #[t,t2] o.type #[ya,yb]))))
  (hu:P.underlying t=some (.slice el)) (hi:P.info? el=some i) (hisz:i.size=sz) (hzv:i.zero=some zv) (hzl:zv.cells.size=sz) (hya:ya=.slice base len cap) (hS:Src P sz t2 yb m news x)
  (hold:(Builtin.firstCells sz len (.slice base len cap)).run P x.drew=.ok olds.toArray x.drew) (hol:olds.length=len*sz) (ho:r9 (Leaf.den β) oc olds) (hn:r9 (Leaf.den β) nc news) (hg:cap<len+m) (hb:fW P el (len+m))
  (hnew:β S.n=none/\β.c S.n=none) (he:e.v=.c (.l (.o S.n (len+m)))/\e.wr=[(S.n,⟨oc++nc,.r el sz S.n⟩)]/\e.nw=1):D6 P o a x S.n e β Q:=by
 subst hisz hya
 have hb:=hb i hi
 have hb1:(len+m)*i.bytes<=140737488355328:=Nat.le_trans (Nat.mul_le_mul_left _ (by omega)) hb
 have hb2:len+m<=140737488355328:=Nat.le_trans (Nat.le_mul_of_pos_right _ (by omega)) hb
 have hrun:=run_append_grow_src (P:=P) x t t2 o.type el i zv hu hi hzv base len cap olds hold yb m news hS hg (by omega) (growslice_fits hg hb1)
 have hge:=grownCap_ge x (len+m) cap el
 have hnl:=hS.newsLen
 unfold D6 Oper.wp
 rw[hx,fZ hrun,Oper.upon_value,he.1,he.2.1,he.2.2]
 refine ⟨_,β.set S.n x.heap.size (some (grownCap x (len+m) cap el)),rfl,U3 hw hnew rfl rfl rfl (by simp) (fun q hq=>Below.heap_alloc x.drew _ q hq) (.inr ⟨x.heap.size,_,Bt.set_b _ _ _ _,Bt.set_c _ _ _ _,hge,rfl⟩) (.inr ⟨olds++news,(Builtin.zeroCells zv.cells (grownCap x (len+m) cap el-(len+m))).toList,?_,?_,?_⟩)⟩
 ·have:=heap_alloc_new x.drew (.cells ((olds++news).toArray++Builtin.zeroCells zv.cells (grownCap x (len+m) cap el-(len+m))) el)
  refine this.trans ?_
  congr 2
  apply Array.ext'
  simp[BT.ty]
 ·exact (ho.append hn).mono fun _ _ q=>Leaf.ext (Bt.set_ext hnew) q
 ·refine ⟨_,Bt.set_c _ _ _ _,?_⟩
  have hz:(Builtin.zeroCells zv.cells (grownCap x (len+m) cap el-(len+m))).size=(grownCap x (len+m) cap el-(len+m))*zv.cells.size:=by simp[Builtin.zeroCells]
  simp only[List.length_append,Array.length_toList,hz,hzl,hol,hnl]
  rw[<-Nat.add_mul,<-Nat.add_mul]
  exact Nat.mul_le_mul_right _ (by omega)
theorem Hw {d:Nat} {c:Call} (hw:Wf β x) (ho:o.op=.call c) (hb:c.callee=.builtin .append) (hp:∀p∈c.args.toList,(D7 S p).den β (a.eval p)) (h:nE P cx d S c.argTypes.toList (c.args.toList.map (D7 S))=some e) (hob:Q5 e.obs)
  (hrd:∀id∈e.rd,∀b k,β id=some b->S.blk id=some k->y9 β x b k) (hnew:∀id,S.n<=id->id<S.n+e.nw->β id=none/\β.c id=none) (hdc:Be β e.dc):D6 P o a x S.n e β Q:=by
 have hx:execOp a.eval o=(do pure (Next.value (<-Builtin.append_ c.argTypes o.type (c.args.map a.eval)))):=by
  unfold execOp;rw[ho];simp only[resolve,hb];rfl
 have hd:=gD (S:=S) (a:=a) hp
 have two:∀(ys:List Value),c.args.toList.map a.eval=ys->c.args.map a.eval=ys.toArray:=fun ys hy=>by apply Array.ext';simp[hy]
 have twt:∀(ys:List Nat),c.argTypes.toList=ys->c.argTypes=ys.toArray:=fun ys hy=>by apply Array.ext';simp[hy]
 have info:∀ {el sz:Nat} {z:List Leaf},qJ P el=some sz->zc P el=some z->∃i v,P.info? el=some i/\i.size=sz/\i.zero=some v/\v.cells.size=z.length:=by
  intro el sz z h1 h2
  have:=gJ h1
  cases hi:P.info? el with
  |none=>rw[hi] at this;cases this
  |some i=>
   rw[hi] at this
   simp only[Option.map_some,Option.some.injEq] at this
   unfold zc at h2
   rw[hi] at h2
   simp only at h2
   split at h2
   ·rename_i v hv
    split at h2
    ·cases h2;exact ⟨i,v,rfl,this,hv,by simp⟩
    ·cases h2
   ·cases h2
 unfold nE at h
 split at h
 ·rename_i t t2 id len xx ht ha
  rw[ha] at hd
  obtain ⟨ys,hys⟩:∃y,c.args.toList.map a.eval=y:=⟨_,rfl⟩
  rw[hys] at hd
  match ys,hd with
  |[ya,yb],hd=>
   obtain ⟨hya,hyb,_⟩:=hd
   rw[two _ hys,twt _ ht] at hx
   split at h
   ·rename_i el hu
    split at h
    ·rename_i sz z k hsz hz hk
     obtain ⟨i,zv,hi,hisz,hzv,hzl⟩:=info hsz hz
     split at h
     ·rename_i r os hr hos hty
      simp only[Bool.and_eq_true] at hty
      obtain ⟨hty,hzz⟩:=hty
      have hzl:=hzl.trans (Nat.eq_of_beq_eq_true hzz)
      split at h
      ·cases h
       obtain ⟨ho1,ho2⟩:=Q5.append.1 hob
       have hlen:=z8 hos ho1 (fun q=>Nat.eq_of_beq_eq_true q)
       obtain ⟨news,hS,hN⟩:=iJ (x:=x) hr hyb ho2 (fun id hid=>hrd id (by simp[hid]))
       have hty:=zW hty
       have hnl:=hS.newsLen
       have hNl:=hN.length
       rcases hya with ⟨hl0,hc0,hy⟩|⟨b,cap,hbb,hcc,hcap,hy⟩
       ·subst hl0 hy
        have hm:0+r.m<=0:=of_decide_eq_true (hdc (id,0+r.m,true) (by simp) 0 hc0)
        have hm0:r.m=0:=by omega
        have hkc:k.cs=[]:=List.eq_nil_of_length_eq_zero (by rw[hlen,Nat.zero_mul])
        have hn0:news=[]:=List.eq_nil_of_length_eq_zero (by rw[hnl,hm0,Nat.zero_mul])
        have hrc:r.cs=[]:=List.eq_nil_of_length_eq_zero (by rw[hNl,hn0];rfl)
        have hrun:(Builtin.append_ #[t,t2] o.type #[.slice none 0 0,yb]).run P x=.ok (.slice none 0 0) x:=by
         have e1:=hS.len x
         have e2:=hS.cells
         rw[hm0] at e1 e2
         rcases hS.kind with ⟨e',hk'⟩|hk'<;>simp[Builtin.append_,run_underlying hu,run_underlying hk',sizeOf,typeInfo,hi,e1,hisz,e2]
        unfold D6 Oper.wp
        rw[hx,fZ hrun,Oper.upon_value]
        refine ⟨_,β,rfl,⟨.inl ⟨by omega,hc0,rfl⟩,Ext.refl β,fun _ _ h=>.inl h,fun _ _ h=>.inl h,hw.inj,hw.lt,rfl,rfl,rfl,Nat.le_refl _,fun _ _ _=>rfl,fun id' b' k' hb' hk'=>?_⟩⟩
        have e:id'=id:=by
         have:=M3 hk'
         simp only[List.mem_singleton,Prod.mk.injEq] at this;exact this.1
        subst e
        rw[o5] at hk';cases hk'
        have:=hrd id' (by simp) b' k hb' hk
        rw[hkc,hrc]
        obtain ⟨kc,kt⟩:=k
        simp only at hkc hty
        rw[hkc,hty] at this
        exact this
       ·have hm:len+r.m<=cap:=of_decide_eq_true (hdc (id,len+r.m,true) (by simp) cap hcc)
        rcases hrd id (by simp) b k hbb hk with (⟨hq,_⟩|⟨hq,_⟩)|⟨ys,zs,h1,h2,h3⟩
        ·rw[hty] at hq;cases hq
        ·rw[hty] at hq;cases hq
        rw[hty] at h1 h3
        obtain ⟨v,hv,hroom⟩:=h3
        rw[hcc] at hv;cases hv
        have hyl:=h2.length
        have hzl:news.length<=zs.length:=by
         have:=Nat.mul_le_mul_right sz hm
         rw[Nat.add_mul] at this
         rw[List.length_append] at hroom
         omega
        subst hy
        have hrun:=run_append_room_src (P:=P) x t t2 o.type el i hu hi b 0 len cap yb r.m news (by rw[hisz];exact hS) hm (fun j hj=>by
         rw[cell_of_row x b _ _ _ _ h1,hisz]
         simp only[List.getElem?_toArray]
         rw[List.getElem?_eq_getElem (by rw[List.length_append];omega)];rfl) (fun j hj=>frozen_of_row x b _ _ _ h1)
        rw[hisz,Nat.zero_add] at hrun
        have hsp:Ab.j4 (ys++zs) (len*sz) news=(ys++news)++zs.drop news.length:=by
         rw[show len*sz=ys.length by omega];exact qO news ys zs hzl
        unfold D6 Oper.wp
        rw[hx,fZ hrun,Oper.upon_value]
        obtain ⟨i1,i2,i3⟩:=bN b news (len*sz) x
        refine ⟨_,β,rfl,⟨.inr ⟨b,cap,hbb,hcc,hm,rfl⟩,Ext.refl β,fun _ _ h=>.inl h,fun _ _ h=>.inl h,hw.inj,fun i c hc=>by rw[K0];exact hw.lt i c hc,i1,i2,i3,by rw[K0];exact Nat.le_refl _,?_,fun id' b' k' hb' hk'=>?_⟩⟩
        ·intro q hq hne
         refine T6 b ?_ _ _ _
         intro e
         subst e
         have:=hne id hbb
         rw[o5] at this
         cases this
        ·have e:id'=id:=by
          have:=M3 hk'
          simp only[List.mem_singleton,Prod.mk.injEq] at this;exact this.1
         subst e
         rw[o5] at hk';cases hk'
         rw[hbb] at hb';cases hb'
         refine .inr ⟨ys++news,zs.drop news.length,?_,h2.append hN,⟨cap,hcc,?_⟩⟩
         ·rw[T9 b _ news _ _ x h1,hsp]
          rfl
         ·rw[List.length_append,List.length_append,List.length_drop]
          rw[List.length_append] at hroom
          omega
      ·cases h
       obtain ⟨hap,hob⟩:=hob
       obtain ⟨ho1,ho2⟩:=Q5.append.1 hob
       have hlen:=z8 hos ho1 (fun q=>Nat.eq_of_beq_eq_true q)
       obtain ⟨news,hS,hN⟩:=iJ (x:=x) hr hyb ho2 (fun id hid=>hrd id (by simp[hid]))
       have hty:=zW hty
       rcases hya with ⟨hl0,hc0,hy⟩|⟨b,cap,hbb,hcc,hcap,hy⟩
       ·have hm:¬len+r.m<=0:=of_decide_eq_false (hdc (id,len+r.m,false) (by simp) 0 hc0)
        have hkc:k.cs=[]:=List.eq_nil_of_length_eq_zero (by rw[hlen,hl0,Nat.zero_mul])
        subst hl0
        exact mN (S:=S) (e:=_) hw hx hu hi hisz hzv hzl hy hS (olds:=[]) (oc:=k.cs) (by simp[Builtin.firstCells]) (by simp) (by rw[hkc];trivial) hN (by omega) hap (hnew S.n (Nat.le_refl _) (by simp)) ⟨rfl,rfl,rfl⟩
       ·have hm:¬len+r.m<=cap:=of_decide_eq_false (hdc (id,len+r.m,false) (by simp) cap hcc)
        obtain ⟨ys,hra,hyl,hyd⟩:=(hrd id (by simp) b k hbb hk).range (by rw[hty];exact fun h=>by cases h) (i:=0) (n:=len*sz) (by omega)
        rw[<-hlen,List.drop_zero,List.take_length] at hyd
        exact mN (S:=S) (e:=_) hw hx hu hi hisz hzv hzl hy hS (olds:=ys) (oc:=k.cs) (run_firstCells_some (P:=P) x.drew sz len ⟨b,0,none⟩ len cap ys hyl (fun j u hj=>by rw[Addr.add_lit];exact hra j u hj)) hyl hyd hN (by omega) hap (hnew S.n (Nat.le_refl _) (by simp)) ⟨rfl,rfl,rfl⟩
     ·cases h
    ·cases h
   ·cases h
 ·rename_i t t2 xx ht ha
  rw[ha] at hd
  obtain ⟨ys,hys⟩:∃y,c.args.toList.map a.eval=y:=⟨_,rfl⟩
  rw[hys] at hd
  match ys,hd with
  |[ya,yb],hd=>
   obtain ⟨⟨hya,_⟩,hyb,_⟩:=hd
   rw[two _ hys,twt _ ht] at hx
   split at h
   ·rename_i el hu
    split at h
    ·rename_i sz z hsz hz
     obtain ⟨i,zv,hi,hisz,hzv,hzl⟩:=info hsz hz
     split at h
     ·rename_i r hr hzz
      cases h
      obtain ⟨hm,hap,hob⟩:=hob
      obtain ⟨news,hS,hN⟩:=iJ (x:=x) hr hyb hob hrd
      have hzl:=hzl.trans (Nat.eq_of_beq_eq_true hzz)
      exact mN (S:=S) (e:=_) (len:=0) hw hx hu hi hisz hzv hzl hya hS (olds:=[]) (oc:=[]) (by simp[Builtin.firstCells]) (by simp) trivial hN (by omega) (by rw[Nat.zero_add];exact hap) (hnew S.n (Nat.le_refl _) (by simp)) ⟨by rw[Nat.zero_add],rfl,rfl⟩
     ·cases h
    ·cases h
   ·cases h
 ·cases h
theorem xJ {β:Bt}:∀ {l:List SV} {ys:List Value} {r:List (Nat×Nat)},Pq l=some r->r9 (SV.den β) l ys->r9 (fun (c:Nat×Nat) z=>∃b,β c.1=some b/\z=.pointer (some ⟨b,c.2,none⟩)) r ys
 |[],[],r,h,_=>by simp only[Pq,Option.some.injEq] at h;subst h;trivial
 |s::l,y::ys,r,h,hd=>by
  unfold Pq at h
  split at h
  ·rename_i heq;cases heq
  ·rename_i id off l' heq
   cases heq
   split at h
   ·rename_i r' hr'
    cases h
    exact ⟨hd.1,xJ hr' hd.2⟩
   ·cases h
  ·cases h
theorem rO {β:Bt}:∀ {caps:List (Nat×Nat)} {ys:List Value},r9 (fun (c:Nat×Nat) z=>∃b,β c.1=some b/\z=.pointer (some ⟨b,c.2,none⟩)) caps ys->r9 (SV.den β) (caps.map fun p=>.c (.l (.p p.1 p.2))) ys
 |[],[],_=>trivial
 |c::cs,y::ys,h=>⟨h.1,rO h.2⟩
theorem As:∀ {l:List Nat} {id:Nat} {k:n6},lk (rdH S l) id=some k->id∈l/\S.blk id=some k
 |[],id,k,h=>by cases h
 |i::l,id,k,h=>by
  unfold rdH at h
  split at h
  ·rename_i k' hk'
   by_cases e:i=id
   ·subst e;rw[o5] at h;cases h;exact ⟨by simp,hk'⟩
   ·rw[t6 _ _ e] at h
    obtain ⟨h1,h2⟩:=As h
    exact ⟨by simp[h1],h2⟩
  ·obtain ⟨h1,h2⟩:=As h
   exact ⟨by simp[h1],h2⟩
theorem Yg {d:Nat} {c:Call} (hw:Wf β x) (ho:o.op=.call c) (hp:∀p∈c.operands.toList,(D7 S p).den β (a.eval p)) (h:Bq P cx d S c=some e) (hob:Q5 e.obs)
  (hrd:∀id∈e.rd,∀b k,β id=some b->S.blk id=some k->y9 β x b k) (hnew:∀id,S.n<=id->id<S.n+e.nw->β id=none/\β.c id=none) (hdc:Be β e.dc):D6 P o a x S.n e β Q:=by
 unfold Bq at h
 have hpa:∀p∈c.args.toList,(D7 S p).den β (a.eval p):=fun p hp'=>hp p (by simp only[Call.operands];simp;right;simpa using hp')
 split at h
 ·rename_i f hcl
  have hf:(D7 S f).den β (a.eval f):=hp f (by simp only[Call.operands,hcl];simp)
  split at h
  ·rename_i fn caps hv
   rw[hv] at hf
   obtain ⟨cs,hcs,hfv⟩:=hf
   split at h
   ·rename_i k hk
    split at h
    ·rename_i r hr
     cases h
     obtain ⟨hent,hcall⟩:=hob.1
     have hargs:r9 (SV.den β) ((c.args.toList.map (D7 S))++caps.map fun p=>.c (.l (.p p.1 p.2))) ((c.args.toList.map a.eval)++cs):=(gD hpa).append (rO hcs)
     have hc:=hcall β x _ hargs hw.inj hw.lt hnew (fun id b k hb hk=>by
      obtain ⟨h1,h2⟩:=As hk
      exact hrd id h1 b k hb h2) hdc
     have hrun:(execOp a.eval o).run P x=.ok (.enter fn ((c.args.toList.map a.eval)++cs).toArray) x:=by
      unfold execOp;rw[ho]
      simp only[resolve,hcl,Deferred.ofValue,hfv,Sem.run_bind,Sem.run_pure,Result.andThen_ok,invoke]
      rw[hent]
      congr 2
      apply Array.ext'
      simp
     unfold D6 Oper.wp
     rw[hrun,Oper.upon_enter]
     refine hc.mono ?_
     rintro e' x' ⟨y,β',rfl,hD⟩
     exact ⟨y,β',rfl,hD⟩
    ·cases h
   ·cases h
  ·cases h
 ·rename_i hcl
  exact Hw hw ho hcl hpa h hob hrd hnew hdc
 ·rename_i b _ hcl
  exact Bv hw ho hcl hpa h
 ·cases h
theorem cY {S:St} {β:Bt} {a:Act} {p:Option Operand} {d i:Int} (h:Au S p d=some i) (hp:∀q,p=some q->(D7 S q).den β (a.eval q)):(p=none/\i=d)\/∃q k,p=some q/\a.eval q=.int k i:=by
 cases p with
 |none=>simp only[Au,Option.some.injEq] at h;exact .inl ⟨rfl,h.symm⟩
 |some q=>
  simp only[Au] at h
  split at h
  ·rename_i k m hv
   cases h
   have:=hp q rfl
   rw[hv] at this
   exact .inr ⟨q,k,rfl,this.1⟩
  ·cases h
theorem Uy (t:Nat) (s:ByteArray) (lo hi:Option Operand) (i j:Int) (w:World) (ht:P.underlying t=some .string)
  (hlo:(lo=none/\i=0)\/∃q k,lo=some q/\a.eval q=.int k i) (hhi:(hi=none/\j=s.size)\/∃q k,hi=some q/\a.eval q=.int k j)
  (h:0<=i/\i<=j/\j<=s.size):(Instr.sliceAt t (.string s) (lo.map a.eval) (hi.map a.eval) none).run P w=.ok (.string (s.extract i.toNat j.toNat)) w:=by
 obtain ⟨h0,h1,h2⟩:=h
 rw[run_sliceAt_string _ _ _ _ _ _ ht]
 rcases hlo with ⟨rfl,rfl⟩|⟨q,k,rfl,hq⟩<;>rcases hhi with ⟨rfl,rfl⟩|⟨q',k',rfl,hq'⟩
 ·simp[Instr.slice,Instr.sliceBounds,run_underlying ht]
 ·simp only[Option.map_none,Option.map_some,hq']
  have e:0<=j/\j<=(s.size:Int):=⟨h1,h2⟩
  simp[Instr.slice,Instr.sliceBounds,Instr.sliceBound,asIntOf,run_underlying ht,e]
 ·simp only[Option.map_none,Option.map_some,hq]
  have e:0<=i/\i<=(s.size:Int):=⟨h0,h1⟩
  simp[Instr.slice,Instr.sliceBounds,Instr.sliceBound,asIntOf,run_underlying ht,e]
 ·simp only[Option.map_some,hq,hq']
  rw[run_slice_string_if _ _ _ _ _ _ _ ht,if_pos ⟨by omega,h2⟩,if_pos ⟨h0,h1⟩]
theorem Qn {e sz b off len cap:Nat} (t:Nat) (lo hi:Option Operand) (i j:Int) (w:World) (ht:P.underlying t=some (.slice e)) (hs:qJ P e=some sz) (hc:len<=cap)
  (hlo:(lo=none/\i=0)\/∃q k,lo=some q/\a.eval q=.int k i) (hhi:(hi=none/\j=len)\/∃q k,hi=some q/\a.eval q=.int k j)
  (h:0<=i/\i<=j/\j<=(len:Nat)):(Instr.sliceAt t (.slice (some ⟨b,off,none⟩) len cap) (lo.map a.eval) (hi.map a.eval) none).run P w=.ok (sliced (some ⟨b,off,none⟩) i.toNat j.toNat cap sz) w:=by
 obtain ⟨h0,h1,h2⟩:=h
 have el:P.elem t=e:=by simp[Program.elem,ht]
 have ht':P.underlying t=some (.slice (P.elem t)):=by rw[el];exact ht
 have hz:(sizeOf (P.elem t)).run P w=.ok sz w:=by rw[el];exact Q6 hs w
 rw[run_sliceAt_slice _ _ _ _ _ _ ht']
 rcases hlo with ⟨rfl,rfl⟩|⟨q,k,rfl,hq⟩<;>rcases hhi with ⟨rfl,rfl⟩|⟨q',k',rfl,hq'⟩
 ·simp only[Option.map_none]
  rw[run_slice_all _ _ _ _ _ ht',hz]
  simp
 ·simp only[Option.map_none,Option.map_some,hq']
  rw[run_slice_h _ _ _ _ _ ht' _ _ h1 (by omega),hz]
  simp
 ·simp only[Option.map_none,Option.map_some,hq]
  rw[run_slice_l _ _ _ _ _ ht' _ _ h0 (by omega),hz]
  simp
 ·simp only[Option.map_some,hq,hq']
  rw[run_slice_lh _ _ _ _ _ ht' _ _ _ _ h0 h1 (by omega),hz]
  simp
theorem Kc {n:Nat} {t:Nat} {y:Operand} {lo hi mx:Option Operand} (hw:Wf β x) (ho:o.op=.slice t y lo hi mx) (hy:(D7 S y).den β (a.eval y)) (hlo:∀q,lo=some q->(D7 S q).den β (a.eval q)) (hhi:∀q,hi=some q->(D7 S q).den β (a.eval q))
  (h:tS P S t (D7 S y) lo hi mx=some e) (hob:Q5 e.obs):D6 P o a x n e β Q:=by
 have hx:execOp a.eval o=(do pure (Next.value (<-Instr.sliceAt t (a.eval y) (lo.map a.eval) (hi.map a.eval) (mx.map a.eval)))):=by unfold execOp;rw[ho]
 unfold tS at h
 split at h
 ·rename_i s hv
  rw[hv] at hy
  obtain ⟨hy,_⟩:=hy
  rw[hy] at hx
  split at h
  ·rename_i ht
   split at h
   ·rename_i i j hi' hj'
    cases h
    exact t8 hw hx (Uy t s lo hi i j x ht (cY hi' hlo) (cY hj' hhi) hob.1) ⟨rfl,rfl⟩ rfl
   ·cases h
  ·cases h
 ·rename_i id off len hv
  rw[hv] at hy
  obtain ⟨b,cap,hb,hcap,hy⟩:=hy
  rw[hy] at hx
  split at h
  ·rename_i el ht
   split at h
   ·rename_i sz i j hs hi' hj'
    cases h
    obtain ⟨⟨h0,h1,h2,h3⟩,_⟩:=hob
    refine t8 hw hx (Qn t lo hi i j x ht hs hcap (cY hi' hlo) (cY hj' hhi) ⟨h0,h1,h2⟩) ?_ rfl
    refine ⟨b,cap-i.toNat,hb,by omega,?_⟩
    unfold sliced
    have e1:(j-i).toNat=j.toNat-i.toNat:=by omega
    rw[e1]
    split
    ·have:i=0:=by omega
     subst this
     simp
    ·have ea:(⟨b,off,none⟩:Addr).add (i.toNat*sz)=⟨b,off+i.toNat*sz,none⟩:=by unfold Addr.add;split<;>simp_all
     rw[Option.map_some,ea]
   ·cases h
  ·cases h
 ·cases h
theorem Yb {t:Nat} {y z:Operand} (hw:Wf β x) (hn:β S.n=none/\β.c S.n=none) (ho:o.op=.makeSlice t y z) (hy:(D7 S y).den β (a.eval y)) (hz:(D7 S z).den β (a.eval z)) (h:uM P S t (D7 S y) (D7 S z)=some e):D6 P o a x S.n e β Q:=by
 have hx:execOp a.eval o=(do pure (Next.value (<-Instr.makeSlice t (a.eval y) (a.eval z)))):=by unfold execOp;rw[ho]
 unfold uM at h
 split at h
 ·rename_i el kl kc c hu hvy hvz
  rw[hvy] at hy
  rw[hvz] at hz
  obtain ⟨hy,_⟩:=hy
  obtain ⟨hz,_⟩:=hz
  rw[hy,hz] at hx
  split at h
  ·rename_i i hi
   split at h
   ·rename_i zv hzv hsz
    split at h
    ·rename_i hb hc
     have hb:=Nat.le_of_ble_eq_true hb
     have hc:=Nat.le_of_ble_eq_true hc
     cases h
     have hb':(i.bytes:Int)*(c:Int)<=281474976710656:=by
      have h:((i.bytes*c:Nat):Int)<=281474976710656:=by omega
      rwa [Int.natCast_mul] at h
     replace hx:execOp a.eval o=(do pure (Next.value (<-Instr.makeSlice t (.int kl 0) (.int kc (c:Int))))):=hx
     have hr:=run_make (P:=P) x t el i zv hu hi hzv kl kc 0 (c:Int) (Int.le_refl _) (by omega) hb' (by omega)
     simp only[Int.toNat_zero,Int.toNat_natCast] at hr
     unfold D6 Oper.wp
     rw[hx,fZ hr,Oper.upon_value]
     refine ⟨_,β.set S.n x.heap.size (some c),rfl,U3 hw hn rfl rfl rfl (by simp) (fun q hq=>Below.heap_alloc x _ q hq) (.inr ⟨x.heap.size,c,Bt.set_b _ _ _ _,Bt.set_c _ _ _ _,Nat.zero_le _,rfl⟩) (.inr ⟨[],(madeCells zv.cells (c*i.size)).toList,by simpa [BT.ty,BT.fr] using heap_alloc_new x (.cells (madeCells zv.cells (c*i.size)) el),trivial,c,Bt.set_c _ _ _ _,by simp[size_madeCells,hsz]⟩)⟩
    ·cases h
   ·cases h
  ·cases h
 ·cases h
theorem oY {n:Nat} {cs:List Leaf} {ys:List Value} {t len sz:Nat} {s:Sem Value} (hw:Wf β x) (hn:β n=none/\β.c n=none) (hx:execOp a.eval o=(do pure (Next.value (<-s))))
  (hr:s.run P x=.ok (.slice (some ⟨x.heap.size,0,none⟩) len len) (x.alloc (.cells ys.toArray t))) (hc:r9 (Leaf.den β) cs ys) (hcl:cs.length=len*sz) (he:e={v:=.c (.l (.o n len)),wr:=[(n,⟨cs,.r t sz n⟩)],nw:=1}):D6 P o a x n e β Q:=by
 subst he
 unfold D6 Oper.wp
 rw[hx,fZ hr,Oper.upon_value]
 exact ⟨_,β.set n x.heap.size (some len),rfl,U3 hw hn rfl rfl rfl (by simp) (fun q hq=>Below.heap_alloc x _ q hq) (.inr ⟨x.heap.size,len,Bt.set_b _ _ _ _,Bt.set_c _ _ _ _,Nat.le_refl _,rfl⟩) (.inr ⟨ys,[],by simpa [BT.ty,BT.fr] using heap_alloc_new x (.cells ys.toArray t),hc.mono fun _ _ q=>Leaf.ext (Bt.set_ext hn) q,len,Bt.set_c _ _ _ _,by rw[List.append_nil,<-hc.length,hcl];exact Nat.le_refl _⟩)⟩
theorem bB {α γ:Type} {R:α->γ->Prop} {p:α} {q:γ} (h:R p q):∀n:Nat,r9 R (List.replicate n p) (List.replicate n q)
 |0=>trivial
 |n+1=>⟨h,bB h n⟩
theorem c1y {t len:Nat} {parts:Array (Nat×Operand)} (hw:Wf β x) (hn:β S.n=none/\β.c S.n=none) (ho:o.op=.buildSlice t len parts) (hp:∀p∈parts.toList,(D7 S p.2).den β (a.eval p.2)) (h:Wu P S t len parts.toList=some e):D6 P o a x S.n e β Q:=by
 have hx:execOp a.eval o=(do pure (Next.value (<-Instr.buildSlice t len (parts.map fun (i,y)=>(i,a.eval y))))):=by unfold execOp;rw[ho]
 have hpd:=jE (S:=S) (a:=a) hp
 have hpl:(parts.map fun (i,y)=>(i,a.eval y)).toList=parts.toList.map fun (i,y)=>(i,a.eval y):=by simp
 unfold Wu at h
 split at h
 ·rename_i el hu
  split at h
  ·rename_i z hs hz
   split at h
   ·rename_i xs hl hf
    split at h
    rotate_left
    ·cases h
    rename_i hxl
    have hxl:=Nat.eq_of_beq_eq_true hxl
    cases h
    have hl:=Nat.le_of_ble_eq_true hl
    obtain ⟨v,hv,hzv,hlf⟩:=eV hz
    have hone:v.cells.toList.length=1:=by
     have:([z]:List Leaf).length=(v.cells.toList.map Leaf.v).length:=by rw[hzv]
     simpa using this.symm
    obtain ⟨c,hc⟩:∃c,v.cells.toList=[c]:=List.length_eq_one_iff.1 hone
    have hzc:z=.v c:=by rw[hc] at hzv;simpa using hzv
    have hcl:Leaf.den β z c:=by rw[hzc];exact ⟨rfl,hlf c (by rw[hc];simp)⟩
    have hca:v.cells = #[c]:=by apply Array.ext';rw[hc]
    obtain ⟨zs,h1,h2⟩:=T4 (β:=β) (fun i=>some (i*1,1)) _ _ _ (Array.replicate len c) xs hpd (by simpa using bB hcl len) hf
    refine oY (t:=el) (ys:=zs.toList) (len:=len) (sz:=1) hw hn hx ?_ h2 (by omega) rfl
    have hlim:¬len*1>2 ^ 24:=by omega
    have hrep:((Array.range (len*1)).map fun i=>(#[c]:Array Value)[i % 1]!)=Array.replicate len c:=by
     apply Array.ext (by simp)
     intro i h1 h2
     simp[Nat.mod_one]
    unfold Instr.buildSlice
    simp only[Sem.run_bind,run_underlying hu,Result.andThen_ok,Q6 hs]
    rw[if_neg hlim]
    by_cases h0:len=0
    ·subst h0
     simp only[Nat.zero_mul,if_true,Sem.run_pure,Result.andThen_ok]
     have e0:((Array.range 0).map fun i=>(#[]:Array Value)[i % (#[]:Array Value).size]!)=Array.replicate 0 c:=by apply Array.ext';simp
     simp only[e0,hpl,h1,newRow,newObj,Sem.run_bind,Sem.run_pure,Result.andThen_ok]
     rfl
    ·simp only[Nat.mul_one,h0,if_false,Sem.run_bind,hv,Sem.run_pure,Result.andThen_ok,hca]
     rw[Nat.mul_one] at hrep
     simp only[show (#[c]:Array Value).size=1 from rfl,hrep,hpl]
     simp only[Nat.mul_one] at h1
     simp only[h1]
     simp only[newRow,newObj,Sem.run_bind,Sem.run_pure,Result.andThen_ok]
     rfl
   ·cases h
  ·rename_i m z hs hz
   split at h
   ·split at h
    ·rename_i hps
     cases h
     refine oY (t:=el) (cs:=[]) (ys:=[]) (len:=0) (sz:=m+2) hw hn hx ?_ trivial (by simp) rfl
     have hpe:(parts.map fun (i,y)=>(i,a.eval y)).toList=[]:=by rw[hpl,hps];rfl
     unfold Instr.buildSlice
     simp only[Sem.run_bind,run_underlying hu,Result.andThen_ok,Q6 hs]
     rw[if_neg (by omega)]
     have e0:((Array.range 0).map fun i=>(#[]:Array Value)[i % (#[]:Array Value).size]!) = #[]:=by apply Array.ext';simp
     simp only[Nat.zero_mul,if_true,Sem.run_pure,Result.andThen_ok,e0]
     simp only[hpe,Instr.fill]
     have e1:(Array.range 0) = #[]:=rfl
     simp only[e1,Array.map_empty]
     simp only[newRow,newObj,Sem.run_bind,Sem.run_pure,Result.andThen_ok]
     rfl
    ·cases h
   ·rename_i xs hl hf
    split at h
    rotate_left
    ·cases h
    rename_i hxl
    have hxl:=Nat.eq_of_beq_eq_true hxl
    cases h
    simp only[Bool.and_eq_true] at hl
    obtain ⟨hl,hzz⟩:=hl
    have hl:=Nat.le_of_ble_eq_true hl
    obtain ⟨v,hv,hzv,hlf⟩:=eV hz
    obtain ⟨zs,h1,h2⟩:=T4 (β:=β) (fun i=>some (i*(m+2),m+2)) _ _ _ v.cells xs hpd (hzv▸iI hlf) hf
    refine oY (t:=el) (ys:=zs.toList) (len:=1) (sz:=m+2) hw hn hx ?_ h2 (by omega) rfl
    have hlim:¬1*(m+2)>2 ^ 24:=by omega
    have hvs:v.cells.size=m+2:=by
     have:=Nat.eq_of_beq_eq_true hzz
     rw[hzv] at this
     simpa using this
    have hrep:((Array.range (1*(m+2))).map fun i=>v.cells[i % v.cells.size]!)=v.cells:=by
     apply Array.ext
     ·simp[hvs]
     ·intro i h1 h2
      have h3:i % v.cells.size=i:=Nat.mod_eq_of_lt h2
      simp[h3,h2]
    unfold Instr.buildSlice
    simp only[Sem.run_bind,run_underlying hu,Result.andThen_ok,Q6 hs]
    rw[if_neg hlim]
    simp only[show ¬(1*(m+2)=0) by omega,if_false,Sem.run_bind,hv,Sem.run_pure,Result.andThen_ok,hrep,hpl,h1]
    simp only[newRow,newObj,Sem.run_bind,Sem.run_pure,Result.andThen_ok]
    rfl
   ·cases h
  ·cases h
 ·cases h
theorem T1:∀ {l:List Leaf} {bs:List Int},P2 l=some bs->bs.length=l.length
 |[],bs,h=>by simp only[P2,Option.some.injEq] at h;subst h;rfl
 |y::l,bs,h=>by
  simp only[P2] at h
  split at h
  ·rename_i b r hb hr
   cases h
   simp[T1 hr]
  ·cases h
theorem nV {β:Bt}:∀ {l:List Leaf} {bs:List Int} {ys:List Value},P2 l=some bs->r9 (Leaf.den β) l ys->ys=bs.map (Value.int .u8)
 |[],bs,ys,h,hd=>by
  simp only[P2,Option.some.injEq] at h;subst h
  cases ys with
  |nil=>rfl
  |cons=>exact hd.elim
 |y::l,bs,ys,h,hd=>by
  simp only[P2] at h
  split at h
  ·rename_i b r hb hr
   cases h
   have hy:y=.v (.int .u8 b):=by
    unfold byteOf at hb
    split at hb
    ·cases hb;rfl
    ·cases hb
   subst hy
   cases ys with
   |nil=>exact hd.elim
   |cons q ys=>
    obtain ⟨⟨h1,_⟩,h2⟩:=hd
    rw[h1,nV hr h2];rfl
  ·cases h
theorem jB:∀ {bs:List Int},Q5 (bs.map D8)->∀b∈bs,0<=b/\b<256
 |[],_,b,h=>by cases h
 |c::bs,h,b,hb=>by
  cases hb with
  |head=>exact h.1
  |tail _ hb=>exact jB h.2 b hb
theorem jW {s t el b off len cap:Nat} {k:n6} {bs:List Int} (hs:P.underlying s=some (.slice el)) (he:P.underlying el=some (.int .u8)) (ht:P.underlying t=some .string) (hB:y9 β x b k) (hnq:k.ty≠.q) (hbs:P2 ((k.cs.drop off).take len)=some bs) (hl:bs.length=len) (hbb:∀b∈bs,0<=b/\b<256) :
  (convert s t (.slice (some ⟨b,off,none⟩) len cap)).run P x=.ok (.string (strOf bs)) x:=by
 have:=run_convert_bytes_back (P:=P) x s t el ⟨b,off,none⟩ cap (bs.map fun b=>UInt8.ofNat b.toNat) hs he ht (fun j hj=>?_)
 ·rw[List.length_map,hl] at this;exact this
 ·simp only[List.length_map] at hj
  have hbl:=T1 hbs
  simp only[List.length_take,List.length_drop] at hbl
  obtain ⟨ys,hra,hyl,hyd⟩:=hB.range hnq (i:=off) (n:=len) (by omega)
  have hw':=nV hbs hyd
  have ea:(⟨b,off,none⟩:Addr).add j=⟨b,off+j,none⟩:=by unfold Addr.add;split<;>simp_all
  rw[ea,hra j (Value.int .u8 bs[j]) (by rw[hw'];simp[hj])]
  have h3:=hbb bs[j] (List.getElem_mem hj)
  simp only[List.getElem_map]
  congr 2
  simp only[UInt8.toNat_ofNat']
  omega
theorem qY {β:Bt}:∀ {l:List Leaf} {ys:List Value},G1 l->r9 (Leaf.den β) l ys->ys=(l.map lfB).map fun b=>Value.int .u8 (b.toNat:Int)
 |[],[],_,_=>rfl
 |y::l,q::ys,h,hd=>by
  obtain ⟨b,hb⟩:=h y (by simp)
  obtain ⟨h1,h2⟩:=hd
  subst hb
  rw[qY (fun z hz=>h z (by simp[hz])) h2,h1.1]
  simp[lfB]
 |[],_::_,_,hd=>hd.elim
 |_::_,[],_,hd=>hd.elim
theorem fR {s t el b off len cap:Nat} {k:n6} (hs:P.underlying s=some (.slice el)) (he:P.underlying el=some (.int .u8)) (ht:P.underlying t=some .string) (hB:y9 β x b k) (hnq:k.ty≠.q) (hl:off+len<=k.cs.length) (hb:G1 ((k.cs.drop off).take len)) :
  (convert s t (.slice (some ⟨b,off,none⟩) len cap)).run P x=.ok (.string (D4 ((k.cs.drop off).take len))) x:=by
 have hlen:((k.cs.drop off).take len).length=len:=by simp;omega
 obtain ⟨ys,hra,hyl,hyd⟩:=hB.range hnq (i:=off) (n:=len) hl
 have hw':=qY hb hyd
 have:=run_convert_bytes_back (P:=P) x s t el ⟨b,off,none⟩ cap (((k.cs.drop off).take len).map lfB) hs he ht (fun j hj=>?_)
 ·rw[List.length_map,hlen] at this;exact this
 ·simp only[List.length_map] at hj
  have ea:(⟨b,off,none⟩:Addr).add j=⟨b,off+j,none⟩:=by unfold Addr.add;split<;>simp_all
  rw[ea,hra j _ (by rw[hw',List.getElem?_map,List.getElem?_eq_getElem (by simpa using hj)];rfl)]
theorem Bj {β:Bt} (s:ByteArray):r9 (Leaf.den β) (A0 s) (s.data.toList.map fun b=>Value.int .u8 (b.toNat:Int)):=eN _
theorem a0u {sym:Bool} {s t:Nat} {y:Operand} (hw:Wf β x) (ho:o.op=.convert s t y) (hy:(D7 S y).den β (a.eval y)) (h:Cb P sym S s t (D7 S y)=some e) (hob:Q5 e.obs)
  (hrd:∀id∈e.rd,∀b k,β id=some b->S.blk id=some k->y9 β x b k) (hnew:∀id,S.n<=id->id<S.n+e.nw->β id=none/\β.c id=none):D6 P o a x S.n e β Q:=by
 have hx:execOp a.eval o=(do pure (Next.value (<-convert s t (a.eval y)))):=by unfold execOp;rw[ho]
 unfold Cb at h
 split at h
 ·rename_i el id off len hs ht hv
  rw[hv] at hy
  obtain ⟨b,cap,hb,hcap,hy⟩:=hy
  rw[hy] at hx
  split at h
  ·rename_i k he hk
   obtain ⟨hk,hnq⟩:=O5 hk
   split at h
   ·cases h
    refine t8 hw hx (y:=.string (D4 ((k.cs.drop off).take len))) ?_ ⟨rfl,rfl⟩ rfl
    exact fR hs he ht (hrd id (by simp) b k hb hk) hnq hob.1 hob.2.1
   split at h
   ·rename_i bs hbs
    split at h
    ·rename_i hl
     have hl:=Nat.eq_of_beq_eq_true hl
     cases h
     refine t8 hw hx (y:=.string (strOf bs)) ?_ ⟨rfl,rfl⟩ rfl
     exact jW hs he ht (hrd id (by simp) b k hb hk) hnq hbs hl (jB hob)
    ·cases h
   ·cases h
  ·cases h
 ·rename_i el id len hs ht hv
  rw[hv] at hy
  split at h
  ·rename_i k he hk
   obtain ⟨hk,hnq⟩:=O5 hk
   split at h
   ·cases h
    obtain ⟨hlen,hAB,_⟩:=hob
    rcases hy with ⟨h0,_,hy⟩|⟨b,cap,hb,_,hcap,hy⟩
    ·rw[hy] at hx
     refine t8 hw hx (y:=.string (D4 k.cs)) ?_ ⟨rfl,rfl⟩ rfl
     have hb0:k.cs=[]:=List.eq_nil_of_length_eq_zero (by omega)
     rw[hb0]
     simp[convert,run_underlying hs,run_underlying ht,Conv.bytesToString,run_underlying he,D4]
     rfl
    ·rw[hy] at hx
     refine t8 hw hx (y:=.string (D4 k.cs)) ?_ ⟨rfl,rfl⟩ rfl
     have e1:(k.cs.drop 0).take len=k.cs:=by rw[List.drop_zero,List.take_of_length_le (by omega)]
     have:=fR (cap:=cap) hs he ht (hrd id (by simp) b k hb hk) hnq (by omega:0+len<=k.cs.length) (by rw[e1];exact hAB)
     rw[e1] at this
     exact this
   split at h
   ·rename_i bs hbs
    split at h
    ·rename_i hl
     have hl:=Nat.eq_of_beq_eq_true hl
     cases h
     rcases hy with ⟨h0,_,hy⟩|⟨b,cap,hb,_,hcap,hy⟩
     ·rw[hy] at hx
      refine t8 hw hx (y:=.string (strOf bs)) ?_ ⟨rfl,rfl⟩ rfl
      have hb0:bs=[]:=List.eq_nil_of_length_eq_zero (by omega)
      subst hb0
      simp[convert,run_underlying hs,run_underlying ht,Conv.bytesToString,run_underlying he,strOf]
      rfl
     ·rw[hy] at hx
      refine t8 hw hx (y:=.string (strOf bs)) ?_ ⟨rfl,rfl⟩ rfl
      have hkl:=T1 hbs
      exact jW hs he ht (hrd id (by simp) b k hb hk) hnq (by rw[List.drop_zero,List.take_of_length_le (by omega)];exact hbs) hl (jB hob)
    ·cases h
   ·cases h
  ·cases h
 ·rename_i k1 k2 k3 m hs ht hv
  rw[hv] at hy
  obtain ⟨hy,_⟩:=hy
  rw[hy] at hx
  cases h
  refine t8 hw hx (y:=.int k2 (k2.wrap m)) ?_ (L1.2 rfl) rfl
  simp[convert,run_underlying hs,run_underlying ht,Conv.intToInt]
 ·rename_i str hs ht hv
  rw[hv] at hy
  obtain ⟨hy,_⟩:=hy
  rw[hy] at hx
  cases h
  refine t8 hw hx (y:=.string str) ?_ ⟨rfl,rfl⟩ rfl
  simp[convert,run_underlying hs,run_underlying ht]
 ·rename_i el str hs ht hv
  rw[hv] at hy
  obtain ⟨hy,_⟩:=hy
  rw[hy] at hx
  split at h
  ·rename_i he
   cases h
   have hrun:=run_bytes_of_string (P:=P) x s t el str hs ht he
   have hge:=grownCap_ge x str.size 0 el
   have hn:=hnew S.n (Nat.le_refl _) (by simp)
   unfold D6 Oper.wp
   rw[hx,fZ hrun,Oper.upon_value]
   refine ⟨_,β.set S.n x.heap.size none,rfl,U3 hw hn rfl rfl rfl (by simp) (fun q hq=>Below.heap_alloc x.drew _ q hq) ⟨x.heap.size,_,Bt.set_b _ _ _ _,hge,rfl⟩ (.inr ⟨str.data.toList.map fun b=>Value.int .u8 (b.toNat:Int),(Array.replicate (grownCap x str.size 0 el-str.size) (Value.int .u8 0)).toList,?_,(Bj str).mono fun _ _ q=>Leaf.ext (Bt.set_ext hn) q,trivial⟩)⟩
   have e1:((str.data.toList.map fun b=>Value.int .u8 (b.toNat:Int))++(Array.replicate (grownCap x str.size 0 el-str.size) (Value.int .u8 0)).toList).toArray=bytesRow str (grownCap x str.size 0 el):=by
    apply Array.ext';simp[bytesRow]
   have e2:((str.data.toList.map fun b=>Value.int .u8 (b.toNat:Int))++(Array.replicate (grownCap x str.size 0 el-str.size) (Value.int .u8 0)).toList).length=(bytesRow str (grownCap x str.size 0 el)).size:=by
    rw[<-e1];simp
   have:=heap_alloc_new x.drew (.cells (bytesRow str (grownCap x str.size 0 el)) el ((bytesRow str (grownCap x str.size 0 el)).size,(bytesRow str (grownCap x str.size 0 el)).size+1))
   rw[e2,e1]
   exact this
  ·cases h
 ·cases h
theorem eI (h:step P cx S o=some e) (hob:Q5 e.obs) (hw:Wf β x) (hsl:∀p∈o.op.operands.toList,(D7 S p).den β (a.eval p))
  (hrd:∀id∈e.rd,∀b k,β id=some b->S.blk id=some k->y9 β x b k) (hnew:∀id,S.n<=id->id<S.n+e.nw->β id=none/\β.c id=none) (hdc:Be β e.dc):D6 P o a x S.n e β Q:=by
 unfold step at h
 split at h
 ·rename_i y ho;rw[ho] at hsl;cases h;exact bA hw (y:=a.eval y) (by unfold execOp;rw[ho];rfl) (hsl y (by simp[Op.operands])) rfl
 ·rename_i y ho;rw[ho] at hsl;cases h;exact bA hw (y:=a.eval y) (by unfold execOp;rw[ho];rfl) (hsl y (by simp[Op.operands])) rfl
 ·rename_i c p q ho;rw[ho] at hsl;exact Ua hw ho (hsl c (by simp[Op.operands])) (hsl p (by simp[Op.operands])) (hsl q (by simp[Op.operands])) h hob
 ·rename_i t ho
  split at h
  ·rename_i z hz;cases h;exact Rj hw (hnew S.n (Nat.le_refl _) (by simp)) ho hz rfl
  ·cases h
 ·rename_i t y ho;rw[ho] at hsl
  split at h
  ·rename_i cp hcp
   cases h
   have:=hsl y (by simp[Op.operands])
   rw[hcp] at this
   exact a7m hw (hnew S.n (Nat.le_refl _) (by simp)) ho this rfl
  ·cases h
 ·rename_i t parts ho;rw[ho] at hsl
  exact Nl hw ho (fun p hp=>hsl p.2 (by simp only[Op.operands];simp;exact ⟨p.1,by simpa using hp⟩)) h
 ·rename_i t y ho;rw[ho] at hsl;exact Zb hw ho (hsl y (by simp[Op.operands])) h hob hrd
 ·rename_i t y z ho;rw[ho] at hsl;exact Sv hw ho (hsl y (by simp[Op.operands])) (hsl z (by simp[Op.operands])) h hob hrd
 ·rename_i op t y z t' ho;rw[ho] at hsl;exact a7d hw ho (hsl y (by simp[Op.operands])) (hsl z (by simp[Op.operands])) h hob
 ·rename_i op t y ho;rw[ho] at hsl
  have hy:=hsl y (by simp[Op.operands])
  have hx:execOp a.eval o=(do pure (Next.value (<-Op.unary op (a.eval y)))):=by unfold execOp;rw[ho]
  split at h
  ·rename_i b hv
   rw[hv] at hy
   obtain ⟨hy,_⟩:=hy
   rw[hy] at hx
   cases h
   exact t8 hw hx (y:=.bool (!b)) (by simp[Op.unary]) (F3.2 rfl) rfl
  ·rename_i k m hv
   rw[hv] at hy
   obtain ⟨hy,_⟩:=hy
   rw[hy] at hx
   cases h
   exact t8 hw hx (y:=.int k (k.wrap (0-m))) (by simp[Op.unary,Op.intArith]) (S4 hob) rfl
  ·cases h
 ·rename_i s t y ho;rw[ho] at hsl;exact a0u hw ho (hsl y (by simp[Op.operands])) h hob hrd hnew
 ·rename_i t y z ho;rw[ho] at hsl
  exact Yb hw (hnew S.n (Nat.le_refl _) (by unfold uM at h;revert h;(repeat' split)<;>intro h<;>first|(cases h;simp)|cases h)) ho (hsl y (by simp[Op.operands])) (hsl z (by simp[Op.operands])) h
 ·rename_i y ho;rw[ho] at hsl
  have hy:=hsl y (by simp[Op.operands])
  split at h
  ·rename_i id off hv
   rw[hv] at hy
   obtain ⟨b,hb,hy⟩:=hy
   cases h
   exact bA hw (y:=a.eval y) (by unfold execOp;rw[ho];simp only[hy];rfl) ⟨b,hb,hy⟩ rfl
  ·cases h
 ·rename_i t y lo hi mx ho;rw[ho] at hsl
  exact Kc hw ho (hsl y (by simp[Op.operands])) (fun q hq=>hsl q (by subst hq;simp[Op.operands])) (fun q hq=>hsl q (by subst hq;simp[Op.operands])) h hob
 ·rename_i t len ps ho;rw[ho] at hsl
  exact c1y hw (hnew S.n (Nat.le_refl _) (by unfold Wu at h;revert h;(repeat' split)<;>intro h<;>first|(cases h;simp)|cases h)) ho (fun p hp=>hsl p.2 (by simp only[Op.operands];simp;exact ⟨p.1,by simpa using hp⟩)) h
 ·rename_i fn first caps ho;rw[ho] at hsl
  split at h
  ·rename_i f l hfi hl
   cases h
   have hd:=gD (S:=S) (a:=a) (β:=β) (ps:=caps.toList) (fun p hp=>hsl p (by simp only[Op.operands];simp;right;simpa using hp))
   have hfi':first = #[]:=by apply Array.ext';rw[hfi]
   subst hfi'
   refine bA hw (y:=.func (.func f) #[] (caps.map a.eval)) (by unfold execOp;rw[ho];simp[Instr.makeFunc]) ⟨_,xJ hl hd,?_⟩ rfl
   congr 1
   apply Array.ext'
   simp
  ·cases h
 ·rename_i t y i ho;rw[ho] at hsl
  have hy:=hsl y (by simp[Op.operands])
  split at h
  ·rename_i fs id off hu hv
   rw[hv] at hy
   split at h
   ·rename_i f hf
    split at h
    ·rename_i m hs;cases h;exact uJ hw ho hu hf hs hy rfl
    ·cases h
   ·cases h
  ·cases h
 ·rename_i t y i ho;rw[ho] at hsl
  have hy:=hsl y (by simp[Op.operands])
  split at h
  ·rename_i fs xs hu hv
   rw[hv] at hy
   split at h
   ·rename_i f hf
    split at h
    ·rename_i v hs;cases h;exact Qe hw ho hu hf hs hy rfl
    ·cases h
   ·cases h
  ·cases h
 ·rename_i t y z ho;rw[ho] at hsl;exact sI hw ho (hsl y (by simp[Op.operands])) (hsl z (by simp[Op.operands])) h hob
 ·rename_i t y z ho;rw[ho] at hsl;exact Lm hw ho (hsl y (by simp[Op.operands])) (hsl z (by simp[Op.operands])) h hob
 ·rename_i y i ho;rw[ho] at hsl
  have hy:=hsl y (by simp[Op.operands])
  split at h
  ·rename_i xs hv
   rw[hv] at hy
   obtain ⟨ys,hy,hd⟩:=hy
   split at h
   ·rename_i c hc
    cases h
    obtain ⟨r,hr,hrd'⟩:=hd.get hc
    refine t8 hw (s:=Instr.extract (a.eval y) i) (by unfold execOp;rw[ho]) (y:=r) ?_ hrd' rfl
    rw[hy]
    simp[Instr.extract,hr]
   ·cases h
  ·cases h
 ·rename_i c ho;rw[ho] at hsl;exact Yg hw ho hsl h hob hrd hnew hdc
 ·cases h
end
end Ab
namespace Ab
def Le (s s':SV):Prop:=∀(β:Bt) (y:Value),s.den β y->s'.den β y
def R0:List Operand->List Nat
 |[]=>[]
 |.tmp t::l=>t::R0 l
 |_::l=>R0 l
def Fl (ops:List Oper):Option (Nat×Bool)->List Nat
 |none=>[]
 |some (j,_)=>match ops[j]? with
  |some p=>match p.dst with|some t=>[t]|none=>[]
  |none=>[]
def J6 (ops:List Oper) (o:Oper):List Nat:=Fl ops o.guard++R0 o.op.operands.toList
def mX (want b:Bool):Bool:=match want with|true=>b|false=>!b
theorem zQ (want b:Bool):mX want b=(b==want):=by cases want<;>cases b<;>rfl
def b9n (c:Bool):List Prop->List Prop
 |[]=>[]
 |p::l=>[c=true->Q5 (p::l)]
theorem Qj {c:Bool} {l:List Prop} (h:Q5 (b9n c l)) (hc:c=true):Q5 l:=by
 cases l with
 |nil=>trivial
 |cons p l=>exact h.1 hc
def gd (S:St) (ops:List Oper):Option (Nat×Bool)->Option (Option Bool)
 |none=>some none
 |some (j,want)=>match ops[j]? with
  |some p=>match p.dst with
   |some t=>match S.sl t with
    |.c (.l (.v (.bool b)))=>some (some (mX want b))
    |.g c0 (.l (.v (.bool b)))=>some (some (c0&&mX want b))
    |_=>none
   |none=>none
  |none=>none
def jL (S:St):List Nat->List (Nat×SV)
 |[]=>[]
 |t::ts=>match S.sl t with | .g _ x=>(t,.c x)::jL S ts|_=>jL S ts
def eB (S:St):List Nat->List Prop
 |[]=>[]
 |t::ts=>match S.sl t with | .g d _=>(d=true)::eB S ts|_=>eB S ts
def mH (S:St) (ts:List Nat):St:={S with E:=jL S ts++S.E}
def iR (o:Oper):List Nat:=match o.op with
 |.pick q _ _=>R0 [q]
 |op=>R0 op.operands.toList
structure Cy extends Cx where
 off:List Nat:=[]
 on:List Nat:=[]
def Cy.at (cx:Cy) (b:Bool):Cy:={cx with ap:=b}
def Kb (cx:Cy) (d:Option Nat) (e:Eff):Eff:=match d with
 |none=>e
 |some d=>match lk cx.nf d with
  |some v=>{e with v:=v,obs:=e.obs++[Le e.v v]}
  |none=>e
def stepG (P:Program) (cx:Cy) (S:St) (ops:List Oper) (o:Oper):Option Eff:=match gd S ops o.guard with
 |none=>none
 |some none=>match step P cx.toCx S o with|some e=>some (Kb cx o.dst e)|none=>none
 |some (some c)=>match J9 (o.dst.getD 0) cx.off with
  |true=>some {v:=.u,obs:=[c=false]}
  |false=>match step P cx.toCx (mH S (iR o)) o with
   |none=>none
   |some e=>match J9 (o.dst.getD 0) cx.on with
    |true=>some (Kb cx o.dst {e with obs:=(c=true)::(eB S (iR o)++e.obs)})
    |false=>match (Kb cx o.dst e).v,e.wr,e.nw,e.dc with
     |.c y,[],0,[]=>some {v:=.g c y,rd:=e.rd,obs:=b9n c (eB S (iR o)++(Kb cx o.dst e).obs)}
     |_,_,_,_=>none
section
variable {P:Program} {cx:Cy} {S:St} {β:Bt} {a:Act} {x:World} {o:Oper} {e:Eff} {Q:Exit->Act->World->Prop} {ops:List Oper}
theorem nW:∀ {l:List Operand} {t:Nat},t∈R0 l↔Operand.tmp t∈l
 |[],t=>by simp[R0]
 |p::l,t=>by
  cases p<;>simp[R0,nW (l:=l)]
theorem lP {l:List Operand} (h:∀t∈R0 l,(S.sl t).den β (a.eval (.tmp t))):∀p∈l,(D7 S p).den β (a.eval p):=by
 intro p hp
 cases p with
 |tmp t=>exact h t (nW.2 hp)
 |const v=>
  show (match K1 v with|true=>SV.c (.l (.v v))|false=>.u).den β v
  cases hl:K1 v with
  |true=>exact ⟨rfl,hl⟩
  |false=>trivial
 |func f=>exact ⟨[],trivial,rfl⟩
 |global g=>trivial
theorem Y8:∀ {ts:List Nat} {t:Nat},Q5 (eB S ts)->(S.sl t).den β (a.eval (.tmp t))->((mH S ts).sl t).den β (a.eval (.tmp t))
 |[],t,_,h=>h
 |s::ts,t,ho,h=>by
  unfold eB at ho
  unfold mH jL
  cases hs:S.sl s with
  |g d y=>
   rw[hs] at ho
   simp only at ho⊢
   by_cases e:s=t
   ·subst e
    rw[hs] at h
    show SV.den β (match lk ((s,SV.c y)::jL S ts++S.E) s with|some v=>v|none=>.u) _
    rw[List.cons_append,o5]
    exact h.1 ho.1
   ·have:=Y8 (ts:=ts) ho.2 h
    show SV.den β (match lk ((s,SV.c y)::jL S ts++S.E) t with|some v=>v|none=>.u) _
    rw[List.cons_append,t6 _ _ e]
    exact this
  |u=>rw[hs] at ho;exact Y8 (ts:=ts) ho h
  |c y=>rw[hs] at ho;exact Y8 (ts:=ts) ho h
  |tup y=>rw[hs] at ho;exact Y8 (ts:=ts) ho h
theorem Ij {j t:Nat} {want:Bool} {p:Oper} (hg:o.guard=some (j,want)) (hj:ops[j]? = some p) (ht:p.dst=some t) :
  (∀b,a.eval (.tmp t)=.bool b->Region.wanted o (yielded ops.toArray a.tmps)=(b==want))/\(a.eval (.tmp t)=undef->Region.wanted o (yielded ops.toArray a.tmps)=false):=by
 have hy:yielded ops.toArray a.tmps j=match a.tmps[t]? with|some (.bool b)=>some b|_=>none:=by
  unfold yielded;simp[hj,ht]
  rfl
 have he:a.eval (.tmp t)=(a.tmps[t]?).getD undef:=by simp[Act.eval]
 constructor
 ·intro b hb
  rw[he] at hb
  cases hq:a.tmps[t]? with
  |none=>rw[hq] at hb;cases hb
  |some v=>
   rw[hq] at hb
   simp only[Option.getD_some] at hb
   subst hb
   unfold Region.wanted
   rw[hg];simp only[hy,hq]
   cases b<;>cases want<;>rfl
 ·intro hb
  rw[he] at hb
  unfold Region.wanted
  rw[hg];simp only[hy]
  cases hq:a.tmps[t]? with
  |none=>rfl
  |some v=>
   rw[hq] at hb
   simp only[Option.getD_some] at hb
   subst hb
   rfl
theorem Za {c:Bool} (h:gd S ops o.guard=some (some c)) (hs:∀t∈Fl ops o.guard,(S.sl t).den β (a.eval (.tmp t))):Region.wanted o (yielded ops.toArray a.tmps)=c:=by
 cases hg:o.guard with
 |none=>rw[hg] at h;simp[gd] at h
 |some jw=>
  obtain ⟨j,want⟩:=jw
  rw[hg] at h hs
  simp only[gd] at h
  cases hj:ops[j]? with
  |none=>rw[hj] at h;cases h
  |some p=>
   simp only[hj] at h
   cases ht:p.dst with
   |none=>rw[ht] at h;cases h
   |some t=>
    simp only[ht] at h
    have hst:=hs t (by simp[Fl,hj,ht])
    obtain ⟨w1,w2⟩:=Ij (a:=a) hg hj ht
    split at h
    ·rename_i b hv
     cases h
     rw[hv] at hst
     rw[zQ];exact w1 b hst.1
    ·rename_i c0 b hv
     cases h
     rw[hv] at hst
     cases c0 with
     |true=>rw[zQ,w1 b (hst.1 rfl).1];rfl
     |false=>rw[w2 (hst.2 rfl)];rfl
    ·cases h
theorem Qr (d:Option Nat) (e:Eff):(Kb cx d e).wr=e.wr/\(Kb cx d e).nw=e.nw/\(Kb cx d e).rd=e.rd/\(Kb cx d e).dc=e.dc:=by
 unfold Kb
 cases d with
 |none=>exact ⟨rfl,rfl,rfl,rfl⟩
 |some d=>simp only;split<;>exact ⟨rfl,rfl,rfl,rfl⟩
theorem tJ {d:Option Nat} {e:Eff} (h:Q5 (Kb cx d e).obs):Q5 e.obs/\Le e.v (Kb cx d e).v:=by
 unfold Kb at h⊢
 cases d with
 |none=>exact ⟨h,fun _ _ k=>k⟩
 |some d=>
  cases hl:lk cx.nf d with
  |none=>simp only[hl] at h⊢;exact ⟨h,fun _ _ k=>k⟩
  |some v=>
   simp only[hl] at h⊢
   obtain ⟨h1,h2⟩:=Q5.append.1 h
   exact ⟨h1,h2.1⟩
theorem D6.mono {n:Nat} {e e':Eff} (h:D6 P o a x n e β Q) (hv:∀β' y,e.v.den β' y->e'.v.den β' y) (hwr:e'.wr=e.wr) (hnw:e'.nw=e.nw):D6 P o a x n e' β Q:=by
 unfold D6 at h⊢
 refine Oper.wp_mono ?_ h
 rintro a' x' ⟨y,β',rfl,hD⟩
 refine ⟨y,β',rfl,?_⟩
 rw[hwr,hnw]
 exact ⟨hv _ _ hD.den,hD.ext,hD.new,hD.newc,hD.inj,hD.lt,hD.os,hD.tape,hD.output,hD.size,hD.keep,hD.blk⟩
theorem zA (h:stepG P cx S ops o=some e) (hob:Q5 e.obs) (hw:Wf β x) (hsl:∀t∈J6 ops o,(S.sl t).den β (a.eval (.tmp t)))
  (hrd:∀id∈e.rd,∀b k,β id=some b->S.blk id=some k->y9 β x b k) (hnew:∀id,S.n<=id->id<S.n+e.nw->β id=none/\β.c id=none) (hdc:Be β e.dc) :
  if Region.wanted o (yielded ops.toArray a.tmps) then D6 P o a x S.n e β Q else Done S.n e.nw β x e.wr e.v undef β x:=by
 have hsg:∀t∈Fl ops o.guard,(S.sl t).den β (a.eval (.tmp t)):=fun t ht=>hsl t (by simp[J6,ht])
 have hso:∀t∈R0 o.op.operands.toList,(S.sl t).den β (a.eval (.tmp t)):=fun t ht=>hsl t (by simp[J6,ht])
 unfold stepG at h
 split at h
 ·cases h
 ·rename_i hg
  have hgn:o.guard=none:=by
   cases hq:o.guard with
   |none=>rfl
   |some jw=>
    rw[hq] at hg
    obtain ⟨j,w⟩:=jw
    simp only[gd] at hg
    (repeat' split at hg)<;>cases hg
  have hwt:Region.wanted o (yielded ops.toArray a.tmps)=true:=by unfold Region.wanted;rw[hgn]
  rw[if_pos hwt]
  split at h
  ·rename_i e0 he0
   cases h
   obtain ⟨h1,h2,h3,h4⟩:=Qr (cx:=cx) o.dst e0
   obtain ⟨k1,k2⟩:=tJ hob
   rw[h3] at hrd
   rw[h2] at hnew
   rw[h4] at hdc
   exact (eI (Q:=Q) he0 k1 hw (lP hso) hrd hnew hdc).mono (fun β' y hy=>k2 β' y hy) h1 h2
  ·cases h
 ·rename_i c hg
  have hwc:=Za (a:=a) (β:=β) hg hsg
  split at h
  ·cases h
   have:c=false:=hob.1
   rw[hwc,this,if_neg (by simp)]
   exact sH hw trivial
  ·split at h
   ·cases h
   ·rename_i e0 he0
    split at h
    ·cases h
     obtain ⟨h1,h2,h3,h4⟩:=Qr (cx:=cx) o.dst {e0 with obs:=(c=true)::(eB S (iR o)++e0.obs)}
     obtain ⟨k1,k2⟩:=tJ hob
     rw[h3] at hrd
     rw[h2] at hnew
     rw[h4] at hdc
     obtain ⟨kc,ks⟩:=k1
     obtain ⟨ks,ko⟩:=Q5.append.1 ks
     subst kc
     rw[hwc,if_pos rfl]
     have hso':∀t∈R0 o.op.operands.toList,((mH S (iR o)).sl t).den β (a.eval (.tmp t)):=fun t ht=>Y8 ks (hso t ht)
     exact (eI (Q:=Q) he0 ko hw (lP hso') hrd hnew hdc).mono (fun β' y hy=>k2 β' y hy) h1 h2
    ·split at h
     ·rename_i y hv hwr hnw hdc0
      cases h
      rw[hwc]
      cases c with
      |true=>
       rw[if_pos rfl]
       obtain ⟨ks,ko0⟩:=Q5.append.1 (Qj hob rfl)
       obtain ⟨ko,kle⟩:=tJ ko0
       have hso':∀t∈R0 o.op.operands.toList,((mH S (iR o)).sl t).den β (a.eval (.tmp t)):=fun t ht=>Y8 ks (hso t ht)
       refine (eI (Q:=Q) he0 ko hw (lP hso') hrd (fun id h1 h2=>?_) (by rw[hdc0];exact hdc)).mono (fun β' z hz=>?_) hwr.symm hnw.symm
       ·rw[hnw] at h2;omega
       ·have hz:=kle β' z hz
        rw[hv] at hz;exact ⟨fun _=>hz,fun h=>by cases h⟩
      |false=>
       rw[if_neg (by simp)]
       exact sH hw ⟨fun h=>(by cases h),fun _=>rfl⟩
     ·cases h
def St.upd (S:St) (d:Option Nat) (e:Eff):St:=
 {E:=(match d with|some d=>(d,e.v)::S.E|none=>S.E),H:=(e.wr.map fun p=>(p.1,some p.2))++S.H,n:=S.n+e.nw,m:=S.m,W:=e.wr.map (·.1)++S.W,q:=S.q}
theorem iO {α γ:Type} (f:α->γ):∀(l:List (Nat×α)) (i:Nat),lk (l.map fun p=>(p.1,f p.2)) i=(lk l i).map f
 |[],i=>rfl
 |(k,v)::l,i=>by
  by_cases h:k=i
  ·subst h;rw[List.map_cons,o5,o5];rfl
  ·rw[List.map_cons,t6 _ _ h,t6 _ _ h];exact iO f l i
theorem a1s (d:Option Nat) (e:Eff) (id:Nat):(S.upd d e).blk id=match lk e.wr id with|some k=>some k|none=>S.blk id:=by
 unfold St.blk St.upd
 simp only
 rw[S3,iO]
 cases lk e.wr id<;>rfl
theorem dO {d:Nat} {y:Value} (h:d<a.tmps.size):(a.put (some d) y).eval (.tmp d)=y:=by
 simp[Act.eval,Act.put,h]
theorem kC {d:Option Nat} {t:Nat} {y:Value} (h:d≠some t):(a.put d y).eval (.tmp t)=a.eval (.tmp t):=by
 cases d with
 |none=>rfl
 |some d=>
  have:d≠t:=fun e=>h (by rw[e])
  simp[Act.eval,Act.put,Array.getElem?_setIfInBounds_ne this]
theorem wM (d:Option Nat) (y:Value):(a.put d y).tmps.size=a.tmps.size:=by
 cases d<;>simp[Act.put]
theorem kJ (d:Option Nat) (y:Value):(a.put d y).defers=a.defers:=by
 cases d<;>rfl
def T2 (n nw:Nat) (wr:List (Nat×n6)):Bool:=(List.range nw).all fun k=>(lk wr (n+k)).isSome
theorem jU {n nw:Nat} {wr:List (Nat×n6)} (h:T2 n nw wr=true) {id:Nat} (h1:n<=id) (h2:id<n+nw):∃k,lk wr id=some k:=by
 have:=(List.all_eq_true.1 h) (id-n) (by simp;omega)
 rw[show n+(id-n)=id by omega] at this
 exact Option.isSome_iff_exists.1 this
def dP (m:Nat):Option Nat->Bool
 |some d=>Nat.blt d m
 |none=>true
theorem a3j {y:Value} {β':Bt} {x':World} {d:Option Nat} (hR:Rep β S a x) (hD:Done S.n e.nw β x e.wr e.v y β' x') (hd:dP S.m d=true) (hn:T2 S.n e.nw e.wr=true) :
  Rep β' (S.upd d e) (a.put d y) x'/\Nx S.q (S.upd d e).W β x β' x':=by
 constructor
 ·refine ⟨fun t=>?_,by rw[wM];exact hR.size,by rw[kJ];exact hR.defs,fun id b k hb hk=>?_,hD.inj,fun i b hb=>⟨hD.lt i b hb,?_⟩,fun i v hv=>?_,Nat.le_trans hR.q (Nat.le_add_right _ _)⟩
  ·by_cases hdt:d=some t
   ·subst hdt
    have hlt:t<a.tmps.size:=by rw[hR.size];exact Nat.le_of_ble_eq_true hd
    rw[dO hlt]
    show SV.den β' (match lk ((t,e.v)::S.E) t with|some v=>v|none=>.u) y
    rw[o5]
    exact hD.den
   ·rw[kC hdt]
    have:(S.upd d e).sl t=S.sl t:=by
     unfold St.sl St.upd
     cases d with
     |none=>rfl
     |some d=>simp only;rw[t6 _ _ (fun q=>hdt (by rw[q]))]
    rw[this]
    exact SV.ext hD.ext (hR.sl t)
  ·rw[a1s] at hk
   cases hl:lk e.wr id with
   |some k'=>rw[hl] at hk;cases hk;exact hD.blk id b k hb hl
   |none=>
    rw[hl] at hk
    rcases hD.new id b hb with h1|⟨h1,h2,h3⟩
    ·refine (hR.blk id b k h1 hk).ext hD.ext (hD.keep b (hR.lt id b h1).1 fun id' h'=>?_)
     rw[hR.inj id' id b h' h1];exact hl
    ·obtain ⟨q,hq⟩:=jU hn h1 h2
     rw[hl] at hq;cases hq
  ·rcases hD.new i b hb with h1|⟨h1,h2,h3⟩
   ·have:=(hR.lt i b h1).2;show i<S.n+e.nw;omega
   ·show i<S.n+e.nw;omega
  ·rcases hD.newc i v hv with h1|⟨h1,h2⟩
   ·have:=hR.ltc i v h1;show i<S.n+e.nw;omega
   ·show i<S.n+e.nw;omega
 ·have hq:=hR.q
  refine ⟨fun id hi=>?_,fun id hi=>?_,fun id b hb=>?_,hD.os,hD.tape,hD.output,hD.size,fun k hk hne=>hD.keep k hk fun id hid=>?_⟩
  ·cases h:β id with
   |some b=>exact hD.ext.b id b h
   |none=>
    cases h':β' id with
    |none=>rfl
    |some b=>
     rcases hD.new id b h' with h1|⟨h1,_,_⟩
     ·rw[h] at h1;cases h1
     ·omega
  ·cases h:β.c id with
   |some b=>exact hD.ext.c id b h
   |none=>
    cases h':β'.c id with
    |none=>rfl
    |some b=>
     rcases hD.newc id b h' with h1|⟨h1,_⟩
     ·rw[h] at h1;cases h1
     ·omega
  ·rcases hD.new id b hb with h1|⟨h1,h2,h3⟩
   ·by_cases hid:id<S.q
    ·exact .inl ⟨hid,h1⟩
    ·exact .inr ⟨by omega,.inr ⟨id,by omega,h1⟩⟩
   ·exact .inr ⟨by omega,.inl h3⟩
  ·refine uZ fun hm=>(hne id hid).2 ?_
   show id∈e.wr.map (·.1)++S.W
   simp only[List.mem_append];exact .inl hm
end
end Ab
namespace Ab
structure Tr where
 dst:Option Nat
 e:Eff
 n:Nat
 rs:List Nat
def trace (P:Program) (cx:Cy) (ops:List Oper) (n0:Nat):List Oper->List Bool->St->Option (List Tr×St)
 |[],_,S=>some ([],S)
 |o::r,bs,S=>match stepG P (cx.at true) S ops o with
  |none=>none
  |some e=>match e.dc with
   |[]=>match dP S.m o.dst,T2 S.n e.nw e.wr with
    |true,true=>match trace P cx ops n0 r bs (S.upd o.dst e) with
     |some (l,S')=>some (⟨o.dst,e,S.n,J6 ops o⟩::l,S')
     |none=>none
    |_,_=>none
   |[(id,m,true)]=>match Nat.blt id n0,bs with
    |true,true::bs=>match dP S.m o.dst,T2 S.n e.nw e.wr with
     |true,true=>match trace P cx ops n0 r bs (S.upd o.dst e) with
      |some (l,S')=>some (⟨o.dst,e,S.n,J6 ops o⟩::l,S')
      |none=>none
     |_,_=>none
    |true,false::bs=>match stepG P (cx.at false) S ops o with
     |none=>none
     |some e=>match dP S.m o.dst,T2 S.n e.nw e.wr with
      |true,true=>match trace P cx ops n0 r bs (S.upd o.dst e) with
       |some (l,S')=>some (⟨o.dst,{e with obs:=(e.dc=[(id,m,false)])::e.obs},S.n,J6 ops o⟩::l,S')
       |none=>none
      |_,_=>none
    |_,_=>none
   |_=>none
def Kj (P:Program) (ops:List Oper) (S:St) (o:Oper) (e:Eff):Prop:=∀(β:Bt) (a:Act) (x:World) (Q:Exit->Act->World->Prop),Q5 e.obs->Wf β x->(∀t∈J6 ops o,(S.sl t).den β (a.eval (.tmp t)))->
 (∀id∈e.rd,∀b k,β id=some b->S.blk id=some k->y9 β x b k)->(∀id,S.n<=id->id<S.n+e.nw->β id=none/\β.c id=none)->Be β e.dc->
 if Region.wanted o (yielded ops.toArray a.tmps) then D6 P o a x S.n e β Q else Done S.n e.nw β x e.wr e.v undef β x
inductive TraceR (P:Program) (ops:List Oper) (c0:Nat->Option Nat) (n0:Nat):List Oper->St->List Tr->St->Prop
 |nil (S:St):TraceR P ops c0 n0 [] S [] S
 |cons {o:Oper} {r:List Oper} {S S':St} {e:Eff} {l:List Tr} (he:Kj P ops S o e) (hd:dP S.m o.dst=true) (hn:T2 S.n e.nw e.wr=true)
   (hc:Q5 e.obs->∀p∈e.dc,p.1<n0/\∀v,c0 p.1=some v->decide (p.2.1<=v)=p.2.2) (hr:TraceR P ops c0 n0 r (S.upd o.dst e) l S'):TraceR P ops c0 n0 (o::r) S (⟨o.dst,e,S.n,J6 ops o⟩::l) S'
theorem Kk {P:Program} {cx:Cy} {ops:List Oper} {S:St} {o:Oper} {e:Eff} (h:stepG P cx S ops o=some e):Kj P ops S o e:=
 fun β a x Q ho hw hsl hrd hnew hdc=>zA h ho hw hsl hrd hnew hdc
theorem aP {P:Program} {cx:Cy} {ops:List Oper} {n0:Nat} (c0:Nat->Option Nat):∀(r:List Oper) (k:Nat) (S:St) (Φ:Option (List Tr×St)->Prop),¬Φ none->(∀bs:List Bool,bs.length=k->Φ (trace P cx ops n0 r bs S))->
  ∃l S',TraceR P ops c0 n0 r S l S'/\Φ (some (l,S'))
 |[],k,S,Φ,h0,h=>⟨[],S,.nil S,h (List.replicate k true) (by simp)⟩
 |o::r,k,S,Φ,h0,h=>by
  have hne:trace P cx ops n0 (o::r) (List.replicate k true) S≠none:=fun e=>h0 (e▸h _ (by simp))
  cases he:stepG P (cx.at true) S ops o with
  |none=>exact absurd (by simp only[trace,he]) hne
  |some e=>
   cases hdc:e.dc with
   |nil=>
    cases hd:dP S.m o.dst with
    |false=>exact absurd (by simp only[trace,he,hdc,hd]) hne
    |true=>
     cases hn:T2 S.n e.nw e.wr with
     |false=>exact absurd (by simp only[trace,he,hdc,hd,hn]) hne
     |true=>
      obtain ⟨l,S',h1,h2⟩:=aP c0 r k (S.upd o.dst e) (fun q=>Φ (match q with|some (l,S')=>some (⟨o.dst,e,S.n,J6 ops o⟩::l,S')|none=>none)) h0 (fun bs hb=>by
       have:=h bs hb
       simp only[trace,he,hdc,hd,hn] at this
       exact this)
      exact ⟨_,S',.cons (Kk he) hd hn (fun _ p hp=>by rw[hdc] at hp;cases hp) h1,h2⟩
   |cons p ps=>
    obtain ⟨id,m,bq⟩:=p
    cases ps with
    |cons _ _=>exact absurd (by simp only[trace,he,hdc]) hne
    |nil=>
     cases bq with
     |false=>exact absurd (by simp only[trace,he,hdc]) hne
     |true=>
      cases hlt:Nat.blt id n0 with
      |false=>exact absurd (by simp only[trace,he,hdc,hlt]) hne
      |true=>
       have hid:id<n0:=Nat.le_of_ble_eq_true hlt
       cases k with
       |zero=>exact absurd (by simp only[trace,he,hdc,hlt,List.replicate]) hne
       |succ k=>
        cases hb:(match c0 id with|some v=>decide (m<=v)|none=>true) with
        |true=>
         cases hd:dP S.m o.dst with
         |false=>exact absurd (by simp only[trace,he,hdc,hlt,hd,List.replicate]) hne
         |true=>
          cases hn:T2 S.n e.nw e.wr with
          |false=>exact absurd (by simp only[trace,he,hdc,hlt,hd,hn,List.replicate]) hne
          |true=>
           obtain ⟨l,S',h1,h2⟩:=aP c0 r k (S.upd o.dst e) (fun q=>Φ (match q with|some (l,S')=>some (⟨o.dst,e,S.n,J6 ops o⟩::l,S')|none=>none)) h0 (fun bs hb=>by
            have:=h (true::bs) (by simp[hb])
            simp only[trace,he,hdc,hlt,hd,hn] at this
            exact this)
           refine ⟨_,S',.cons (Kk he) hd hn (fun _ p hp=>?_) h1,h2⟩
           rw[hdc] at hp
           simp only[List.mem_singleton] at hp
           subst hp
           exact ⟨hid,fun v hv=>by rw[hv] at hb;exact hb⟩
        |false=>
         have hne':trace P cx ops n0 (o::r) (false::List.replicate k true) S≠none:=fun e=>h0 (e▸h _ (by simp))
         cases he':stepG P (cx.at false) S ops o with
         |none=>exact absurd (by simp only[trace,he,hdc,hlt,he']) hne'
         |some e'=>
          cases hd:dP S.m o.dst with
          |false=>exact absurd (by simp only[trace,he,hdc,hlt,he',hd]) hne'
          |true=>
           cases hn:T2 S.n e'.nw e'.wr with
           |false=>exact absurd (by simp only[trace,he,hdc,hlt,he',hd,hn]) hne'
           |true=>
            obtain ⟨l,S',h1,h2⟩:=aP c0 r k (S.upd o.dst e') (fun q=>Φ (match q with|some (l,S')=>some (⟨o.dst,{e' with obs:=(e'.dc=[(id,m,false)])::e'.obs},S.n,J6 ops o⟩::l,S')|none=>none)) h0 (fun bs hb=>by
             have:=h (false::bs) (by simp[hb])
             simp only[trace,he,hdc,hlt,he',hd,hn] at this
             exact this)
            refine ⟨_,S',.cons (e:={e' with obs:=(e'.dc=[(id,m,false)])::e'.obs}) (fun β a x Q ho hw hsl hrd hnew hdc=>Kk he' β a x Q ho.2 hw hsl hrd hnew hdc) hd hn (fun ho p hp=>?_) h1,h2⟩
            have hp:p∈e'.dc:=hp
            rw[ho.1] at hp
            simp only[List.mem_singleton] at hp
            subst hp
            exact ⟨hid,fun v hv=>by rw[hv] at hb;exact hb⟩
def vD:List Tr->Prop
 |[]=>True
 |t::l=>Q5 t.e.obs/\vD l
theorem vD.get:∀ {l:List Tr} {i:Nat} {t:Tr},vD l->l[i]? = some t->Q5 t.e.obs
 |[],i,t,_,h=>by simp at h
 |s::l,0,t,h,e=>by simp at e;subst e;exact h.1
 |s::l,i+1,t,h,e=>vD.get h.2 (by simpa using e)
section
variable {P:Program} {cx:Cy} {ops:List Oper} {Q:Exit->Act->World->Prop}
theorem T8 {c0:Nat->Option Nat} {n0:Nat}:∀ {r:List Oper} {S S':St} {l:List Tr},TraceR P ops c0 n0 r S l S'->S.n<=S'.n/\S.m=S'.m/\(∀i∈S.W,i∈S'.W)/\S.q=S'.q
 |_,_,_,_,.nil S=>⟨Nat.le_refl _,rfl,fun _ h=>h,rfl⟩
 |_,_,_,_,.cons (S:=S) (e:=e) he hd hn hc hr=>by
  obtain ⟨h1,h2,h3,h4⟩:=T8 hr
  refine ⟨Nat.le_trans (Nat.le_add_right _ _) h1,h2,fun i hi=>h3 i ?_,h4⟩
  show i∈e.wr.map (·.1)++S.W
  simp only[List.mem_append];exact .inr hi
theorem a5z {c0:Nat->Option Nat} {n0:Nat} {β:Bt} {dc:List (Nat×Nat×Bool)} (h:∀p∈dc,p.1<n0/\∀v,c0 p.1=some v->decide (p.2.1<=v)=p.2.2) (hc:∀id v,id<n0->β.c id=some v->c0 id=some v):Be β dc:=
 fun p hp v hv=>(h p hp).2 v (hc _ _ (h p hp).1 hv)
theorem Ep {c0:Nat->Option Nat} {n0:Nat}:∀(r:List Oper) (i:Nat) (S S':St) (l:List Tr) (a:Act) (x:World) (β:Bt),(∀j,ops[i+j]? = r[j]?)->TraceR P ops c0 n0 r S l S'->n0<=S.n->(∀id v,id<n0->β.c id=some v->c0 id=some v)->vD l->Rep β S a x->
  (∀β' a' x',Nx S.q S'.W β x β' x'->Rep β' S' a' x'->Q .normal a' x')->wpOps P ops.toArray Q (List.range' i r.length) a x
 |[],i,S,S',l,a,x,β,hi,h,hn0,hc0,ho,hR,hk=>by
  cases h
  exact hk β a x Nx.refl hR
 |o::r,i,S,S',l,a,x,β,hi,h,hn0,hc0,ho,hR,hk=>by
  cases h with
  |cons he hd hn hc hr=>
   rename_i e l'
   obtain ⟨m1,m2,m3,m4⟩:=T8 hr
   have hoi:ops.toArray[i]? = some o:=by have:=hi 0;simpa using this
   rw[List.length_cons,List.range'_succ]
   have hnext:∀y β' x',Done S.n e.nw β x e.wr e.v y β' x'->wpOps P ops.toArray Q (List.range' (i+1) r.length) (a.put o.dst y) x':=by
    intro y β' x' hD
    obtain ⟨hR',hN⟩:=a3j hR hD hd hn
    refine Ep r (i+1) _ S' l' _ x' β' (fun j=>by have:=hi (j+1);rw[show i+1+j=i+(j+1) by omega];simpa using this) hr (Nat.le_trans hn0 (Nat.le_add_right _ _)) (fun id v hid hv=>?_) ho.2 hR' fun β'' a'' x'' hN' hR''=>?_
    ·rcases hD.newc id v hv with h1|⟨h1,_⟩
     ·exact hc0 id v hid h1
     ·omega
    ·exact hk β'' a'' x'' (hN.trans hN' fun i hi _=>m3 i hi) hR''
   have hs:=he β a x Q ho.1 ⟨hR.inj,fun i b h=>(hR.lt i b h).1⟩ (fun t _=>hR.sl t) (fun id _ b k hb hk=>hR.blk id b k hb hk) (fun id h1 _=>by
    constructor
    ·cases hq:β id with
     |none=>rfl
     |some b=>have:=(hR.lt id b hq).2;omega
    ·cases hq:β.c id with
     |none=>rfl
     |some b=>have:=hR.ltc id b hq;omega) (a5z (hc ho.1) hc0)
   unfold wpOps
   rw[hoi]
   simp only
   split
   ·rename_i hw
    rw[if_pos hw] at hs
    refine .inl (Oper.wp_mono ?_ hs)
    rintro a' x' ⟨y,β',rfl,hD⟩
    exact hnext y β' x' hD
   ·rename_i hw
    rw[if_neg hw] at hs
    exact hnext undef β x hs
def U4 (t:Tr):List (Nat×SV):=match t.dst with|some d=>[(d,t.e.v)]|none=>[]
def Y3 (t:Tr):List (Nat×Option n6):=t.e.wr.map fun p=>(p.1,some p.2)
def B3 {α:Type} (f:Tr->List (Nat×α)):List Tr->(Nat->Bool)->Nat->List (Nat×α)->List (Nat×α)
 |[],_,_,E=>E
 |t::l,D,i,E=>B3 f l D (i+1) (match D i with|true=>f t++E|false=>E)
theorem P1 {α:Type} (f:Tr->List (Nat×α)) (k:Nat):∀(l:List Tr) (D D':Nat->Bool) (i:Nat) (E E':List (Nat×α)),(∀j t,l[j]? = some t->(lk (f t) k).isSome=true->D (i+j)=D' (i+j))->lk E k=lk E' k->lk (B3 f l D i E) k=lk (B3 f l D' i E') k
 |[],_,_,_,_,_,_,h=>h
 |t::l,D,D',i,E,E',hh,h=>by
  refine P1 f k l D D' (i+1) _ _ (fun j t' hj hs=>?_) ?_
  ·have:=hh (j+1) t' (by simpa using hj) hs
   rw[show i+1+j=i+(j+1) by omega];exact this
  ·have h0:=hh 0 t (by simp)
   cases hq:lk (f t) k with
   |some v=>
    have:=h0 (by rw[hq];rfl)
    simp only[Nat.add_zero] at this
    rw[this]
    cases D' i
    ·exact h
    ·simp only[S3,hq]
   |none=>
    have e:∀(b:Bool) (F:List (Nat×α)),lk (match b with|true=>f t++F|false=>F) k=lk F k:=by
     intro b F;cases b
     ·rfl
     ·simp only[S3,hq]
    rw[e,e];exact h
theorem S7 {α:Type} (f:Tr->List (Nat×α)):∀(l:List Tr) (D:Nat->Bool) (i:Nat) (E:List (Nat×α)),(∀j,i<=j->D j=false)->B3 f l D i E=E
 |[],_,_,_,_=>rfl
 |t::l,D,i,E,h=>by
  unfold B3
  rw[h i (Nat.le_refl _)]
  exact S7 f l D (i+1) E fun j hj=>h j (by omega)
theorem tF {α:Type} (f:Tr->List (Nat×α)):∀(l:List Tr) (D D':Nat->Bool) (i:Nat) (E:List (Nat×α)),(∀j,j<l.length->D (i+j)=D' (i+j))->B3 f l D i E=B3 f l D' i E
 |[],_,_,_,_,_=>rfl
 |t::l,D,D',i,E,h=>by
  unfold B3
  have:=h 0 (by simp)
  simp only[Nat.add_zero] at this
  rw[this]
  exact tF f l D D' (i+1) _ fun j hj=>by rw[show i+1+j=i+(j+1) by omega];exact h (j+1) (by simp;omega)
def upto (k:Nat):Nat->Bool:=fun j=>decide (j<k)
theorem zN {c0:Nat->Option Nat} {n0:Nat}:∀ {r:List Oper} {S S':St} {l:List Tr},TraceR P ops c0 n0 r S l S'->
  l.length=r.length/\S'.E=B3 U4 l (fun _=>true) 0 S.E/\S'.H=B3 Y3 l (fun _=>true) 0 S.H/\
  ∀i t,l[i]? = some t->∃(o:Oper) (Si:St),r[i]? = some o/\Kj P ops Si o t.e/\t.dst=o.dst/\t.rs=J6 ops o/\dP S.m o.dst=true/\T2 Si.n t.e.nw t.e.wr=true/\Si.n=t.n/\Si.m=S.m/\
   Si.E=B3 U4 l (upto i) 0 S.E/\Si.H=B3 Y3 l (upto i) 0 S.H/\S.n<=t.n/\t.n+t.e.nw<=S'.n/\(∀p∈t.e.wr,p.1∈S'.W)/\(∀j t',l[j]? = some t'->i<j->t.n+t.e.nw<=t'.n)/\
   (Q5 t.e.obs->∀p∈t.e.dc,p.1<n0/\∀v,c0 p.1=some v->decide (p.2.1<=v)=p.2.2)
 |_,_,_,_,.nil S=>⟨rfl,rfl,rfl,fun i t h=>by simp at h⟩
 |_,_,S',_,.cons (o:=o) (r:=r) (S:=S) (e:=e) (l:=l') he hd hn hdc hr=>by
  obtain ⟨h1,h2,h3,h4⟩:=zN hr
  obtain ⟨m1,m2,m3,_⟩:=T8 hr
  have eE:∀(D:Nat->Bool),D 0=true->B3 U4 (⟨o.dst,e,S.n,J6 ops o⟩::l') D 0 S.E=B3 U4 l' (fun j=>D (j+1)) 0 (S.upd o.dst e).E:=by
   intro D hD0
   have sh:∀(l:List Tr) (i:Nat) (E:List (Nat×SV)),B3 U4 l D (i+1) E=B3 U4 l (fun j=>D (j+1)) i E:=by
    intro l
    induction l with
    |nil=>intro i E;rfl
    |cons t l ih=>intro i E;unfold B3;exact ih (i+1) _
   show B3 U4 l' D (0+1) _=_
   rw[sh,hD0]
   have:U4 ⟨o.dst,e,S.n,J6 ops o⟩++S.E=(S.upd o.dst e).E:=by
    unfold U4 St.upd;cases o.dst<;>rfl
   simp only[this]
  have eH:∀(D:Nat->Bool),D 0=true->B3 Y3 (⟨o.dst,e,S.n,J6 ops o⟩::l') D 0 S.H=B3 Y3 l' (fun j=>D (j+1)) 0 (S.upd o.dst e).H:=by
   intro D hD0
   have sh:∀(l:List Tr) (i:Nat) (E:List (Nat×Option n6)),B3 Y3 l D (i+1) E=B3 Y3 l (fun j=>D (j+1)) i E:=by
    intro l
    induction l with
    |nil=>intro i E;rfl
    |cons t l ih=>intro i E;unfold B3;exact ih (i+1) _
   show B3 Y3 l' D (0+1) _=_
   rw[sh,hD0]
   rfl
  refine ⟨by simp[h1],by rw[eE _ rfl];exact h2,by rw[eH _ rfl];exact h3,fun i t hi=>?_⟩
  cases i with
  |zero=>
   simp only[List.getElem?_cons_zero,Option.some.injEq] at hi
   subst hi
   refine ⟨o,S,by simp,he,rfl,rfl,hd,hn,rfl,rfl,?_,?_,Nat.le_refl _,m1,fun p hp=>m3 _ (by show p.1∈e.wr.map (·.1)++S.W;simp only[List.mem_append];exact .inl (List.mem_map_of_mem hp)),?_,hdc⟩
   ·rw[S7];intro j _;simp[upto]
   ·rw[S7];intro j _;simp[upto]
   ·intro j t' hj hlt
    cases j with
    |zero=>omega
    |succ j=>
     obtain ⟨_,_,_,_,_,_,_,_,_,_,_,_,h5,_⟩:=h4 j t' (by simpa using hj)
     exact h5
  |succ i=>
   obtain ⟨o',Si,k1,k2,k3,k4,k5,k6,k7,k8,k9,k10,k11,k12,k13,k14,k15⟩:=h4 i t (by simpa using hi)
   have hup:(fun j=>upto (i+1) (j+1))=upto i:=by funext j;simp[upto]
   refine ⟨o',Si,by simpa using k1,k2,k3,k4,k5,k6,k7,k8,?_,?_,Nat.le_trans (Nat.le_add_right _ _) k11,k12,k13,?_,k15⟩
   ·rw[eE _ (by simp[upto]),hup];exact k9
   ·rw[eH _ (by simp[upto]),hup];exact k10
   ·intro j t' hj hlt
    cases j with
    |zero=>omega
    |succ j=>exact k14 j t' (by simpa using hj) (by omega)
def Jg:List Nat->Nat
 |[]=>0
 |t::l=>2 ^ t ||| Jg l
theorem fY:∀ {l:List Nat} {t:Nat},t∈l->(Jg l).testBit t=true
 |s::l,t,h=>by
  unfold Jg
  rw[Nat.testBit_or]
  cases h with
  |head=>simp[Nat.testBit_two_pow_self]
  |tail _ h=>rw[fY h];simp
structure Mk where
 rS:Nat
 wS:Nat
 rH:Nat
 wH:Nat
def Tr.mk' (t:Tr):Mk:=⟨Jg t.rs,(match t.dst with|some d=>2 ^ d|none=>0),Jg t.e.rd,Jg (t.e.wr.map (·.1))⟩
def cf (p q:Mk):Bool:=Nat.beq ((p.wS &&& (q.rS ||| q.wS)) ||| ((p.rS &&& q.wS) ||| ((p.wH &&& (q.rH ||| q.wH)) ||| (p.rH &&& q.wH)))) 0
def S5 (q:Mk) (clo:Nat):List (Nat×Mk)->Bool
 |[]=>true
 |(i,p)::l=>match cf p q with
  |true=>S5 q clo l
  |false=>match clo.testBit i with|true=>S5 q clo l|false=>false
def chk:Nat->List Mk->List Nat->List (Nat×Mk)->Bool
 |_,[],_,_=>true
 |j,q::r,c::cs,B3=>match S5 q c B3 with|true=>chk (j+1) r cs ((j,q)::B3)|false=>false
 |_,_::_,[],_=>false
theorem bX {q:Mk} {c:Nat}:∀ {l:List (Nat×Mk)},S5 q c l=true->∀p∈l,cf p.2 q=true\/c.testBit p.1=true
 |(i,p)::l,h,r,hr=>by
  unfold S5 at h
  cases hr with
  |head=>
   cases hc:cf p q with
   |true=>exact .inl (by first|exact hc|rfl)
   |false=>
    rw[hc] at h
    cases hb:c.testBit i with
    |true=>exact .inr (by first|exact hb|rfl)
    |false=>simp only[hb] at h;cases h
  |tail _ hr=>
   refine bX ?_ r hr
   cases hc:cf p q with
   |true=>rw[hc] at h;exact h
   |false=>
    rw[hc] at h
    cases hb:c.testBit i with
    |true=>simp only[hb] at h;exact h
    |false=>simp only[hb] at h;cases h
theorem wI:∀ {l:List Mk} {j:Nat} {cs:List Nat} {B3:List (Nat×Mk)},chk j l cs B3=true->
  (∀i q,l[i]? = some q->∀p∈B3,cf p.2 q=true\/(cs.getD i 0).testBit p.1=true)/\
  (∀i k p q,l[i]? = some p->l[k]? = some q->i<k->cf p q=true\/(cs.getD k 0).testBit (j+i)=true)
 |[],j,cs,B3,h=>⟨fun i q h=>by simp at h,fun i k p q h=>by simp at h⟩
 |q::r,j,[],B3,h=>by cases h
 |q::r,j,c::cs,B3,h=>by
  unfold chk at h
  cases ha:S5 q c B3 with
  |false=>rw[ha] at h;cases h
  |true=>
   rw[ha] at h
   obtain ⟨h1,h2⟩:=wI h
   refine ⟨fun i q' hi p hp=>?_,fun i k p q' hi hk hik=>?_⟩
   ·cases i with
    |zero=>simp at hi;subst hi;exact bX ha p hp
    |succ i=>exact h1 i q' (by simpa using hi) p (List.mem_cons_of_mem _ hp)
   ·cases k with
    |zero=>omega
    |succ k=>
     cases i with
     |zero=>
      simp at hi;subst hi
      have:=h1 k q' (by simpa using hk) (j,q) (by simp)
      simpa using this
     |succ i=>
      have:=h2 i k p q' (by simpa using hi) (by simpa using hk) (by omega)
      rw[show j+(i+1)=j+1+i by omega]
      simpa using this
def zG (a:List Nat):List Edge->Nat
 |[]=>0
 |e::l=>match Region.binds .any e with
  |true=>2 ^ e.on ||| (a.getD e.on 0 ||| zG a l)
  |false=>zG a l
def dC:List Oper->List Nat->List Nat
 |[],a=>a
 |o::r,a=>dC r (a++[zG a o.after.toList])
theorem iL {a:List Nat}:∀ {l:List Edge} {b:Nat},(zG a l).testBit b=true->∃e∈l,Region.binds .any e=true/\(b=e.on\/(a.getD e.on 0).testBit b=true)
 |[],b,h=>by simp[zG] at h
 |e::l,b,h=>by
  unfold zG at h
  cases hb:Region.binds .any e with
  |false=>
   rw[hb] at h
   obtain ⟨e',h1,h2⟩:=iL h
   exact ⟨e',by simp[h1],h2⟩
  |true=>
   rw[hb] at h
   simp only[Nat.testBit_or,Bool.or_eq_true] at h
   rcases h with h|h|h
   ·rw[Nat.testBit_two_pow] at h
    exact ⟨e,by simp,hb,.inl (by have:=of_decide_eq_true h;omega)⟩
   ·exact ⟨e,by simp,hb,.inr h⟩
   ·obtain ⟨e',h1,h2⟩:=iL h
    exact ⟨e',by simp[h1],h2⟩
theorem nH:∀(l:List Oper) (a:List Nat) (i:Nat),i<a.length->(dC l a).getD i 0=a.getD i 0
 |[],a,i,h=>rfl
 |o::l,a,i,h=>by
  unfold dC
  rw[nH l _ i (by simp;omega)]
  simp[List.getD,List.getElem?_append_left h]
theorem Ek:∀(l:List Oper) (a:List Nat) (i:Nat) (o:Oper),l[i]? = some o->∃a',(∀j,a'.getD j 0=0\/a'.getD j 0=(dC l a).getD j 0)/\(dC l a).getD (a.length+i) 0=zG a' o.after.toList
 |[],a,i,o,h=>by simp at h
 |p::l,a,0,o,h=>by
  simp at h;subst h
  refine ⟨a,fun j=>?_,?_⟩
  ·by_cases hj:j<a.length
   ·exact .inr (by unfold dC;rw[nH l _ j (by simp;omega)];simp[List.getD,List.getElem?_append_left hj])
   ·exact .inl (by simp[List.getD,List.getElem?_eq_none (Nat.le_of_not_lt hj)])
  ·unfold dC
   rw[nH l _ _ (by simp)]
   simp[List.getD]
 |p::l,a,i+1,o,h=>by
  obtain ⟨a',h1,h2⟩:=Ek l (a++[zG a p.after.toList]) i o (by simpa using h)
  refine ⟨a',h1,?_⟩
  unfold dC
  rw[<-h2]
  simp only[List.length_append,List.length_singleton]
  congr 1
  omega
def sB (cs:List Nat) (D:Nat->Bool):Prop:=∀j,D j=true->∀b,(cs.getD j 0).testBit b=true->D b=true
theorem kA {o:Oper} {i:Nat} {D:Nat->Bool} (hc:sB (dC ops []) D) (ho:ops[i]? = some o) (hd:∀e∈o.after,Region.binds .any e=true->D e.on=true):∀b,((dC ops []).getD i 0).testBit b=true->D b=true:=by
 intro b hb
 obtain ⟨a',h1,h2⟩:=Ek ops [] i o ho
 rw[show i=([]:List Nat).length+i by simp,h2] at hb
 obtain ⟨e,he,hbi,hor⟩:=iL hb
 have hD:=hd e (by simpa using he) hbi
 rcases hor with rfl|h
 ·exact hD
 ·rcases h1 e.on with hz|hz
  ·rw[hz] at h;simp at h
  ·rw[hz] at h;exact hc _ hD b h
theorem bits {p q:Mk} (h:cf p q=true) (t:Nat):¬(p.wS.testBit t=true/\(q.rS.testBit t=true\/q.wS.testBit t=true))/\¬(p.rS.testBit t=true/\q.wS.testBit t=true)/\¬(p.wH.testBit t=true/\(q.rH.testBit t=true\/q.wH.testBit t=true))/\¬(p.rH.testBit t=true/\q.wH.testBit t=true):=by
 have h0:=Nat.eq_of_beq_eq_true h
 have h1:=congrArg (fun z=>z.testBit t) h0
 simp only[Nat.testBit_or,Nat.testBit_and,Nat.zero_testBit,Bool.or_eq_false_iff,Bool.and_eq_false_iff] at h1
 obtain ⟨a,b,c,d⟩:=h1
 refine ⟨fun ⟨x,y⟩=>?_,fun ⟨x,y⟩=>?_,fun ⟨x,y⟩=>?_,fun ⟨x,y⟩=>?_⟩
 ·simp_all
 ·simp_all
 ·simp_all
 ·simp_all
end
end Ab
namespace Ab
section
variable {P:Program} {cx:Cy} {ops:List Oper} {Q:Exit->Act->World->Prop}
theorem pE {α:Type} (f:Tr->List (Nat×α)):∀(l:List Tr) (i s:Nat) (t:Tr) (E:List (Nat×α)),l[i]? = some t->B3 f l (upto (s+i+1)) s E=f t++B3 f l (upto (s+i)) s E
 |[],i,s,t,E,h=>by simp at h
 |u::l,0,s,t,E,h=>by
  simp at h;subst h
  unfold B3
  have h1:upto (s+0+1) s=true:=by simp[upto]
  have h2:upto (s+0) s=false:=by simp[upto]
  rw[h1,h2,S7 _ _ _ _ _ (fun j hj=>by simp[upto];omega),S7 _ _ _ _ _ (fun j hj=>by simp[upto];omega)]
 |u::l,i+1,s,t,E,h=>by
  unfold B3
  have h1:upto (s+(i+1)+1) s=true:=by simp[upto];omega
  have h2:upto (s+(i+1)) s=true:=by simp[upto]
  rw[h1,h2]
  have:=pE f l i (s+1) t (f u++E) (by simpa using h)
  rw[show s+1+i+1=s+(i+1)+1 by omega,show s+1+i=s+(i+1) by omega] at this
  exact this
theorem oK {t:Tr} {k:Nat} (h:(lk (U4 t) k).isSome=true):t.mk'.wS.testBit k=true:=by
 unfold U4 at h
 unfold Tr.mk'
 cases hd:t.dst with
 |none=>rw[hd] at h;cases h
 |some d=>
  rw[hd] at h
  obtain ⟨v,hv⟩:=Option.isSome_iff_exists.1 h
  have:=M3 hv
  simp only[List.mem_singleton,Prod.mk.injEq] at this
  simp[this.1,Nat.testBit_two_pow_self]
theorem pH {t:Tr} {k:Nat} (h:(lk (Y3 t) k).isSome=true):t.mk'.wH.testBit k=true:=by
 obtain ⟨v,hv⟩:=Option.isSome_iff_exists.1 h
 have:=M3 hv
 unfold Y3 at this
 obtain ⟨p,hp,e⟩:=List.mem_map.1 this
 cases e
 exact fY (List.mem_map_of_mem hp)
def Di (i:Nat):List Edge->Bool
 |[]=>true
 |e::l=>match Region.binds .any e with
  |true=>match Nat.blt e.on i with|true=>Di i l|false=>false
  |false=>Di i l
def yQ:Nat->List Oper->Bool
 |_,[]=>true
 |i,o::l=>match Di i o.after.toList with|true=>yQ (i+1) l|false=>false
theorem qV {i:Nat}:∀ {l:List Edge},Di i l=true->∀e∈l,Region.binds .any e=true->e.on<i
 |e::l,h,e',he,hb=>by
  unfold Di at h
  cases he with
  |head=>
   rw[hb] at h
   cases hq:Nat.blt e.on i with
   |true=>exact Nat.le_of_ble_eq_true hq
   |false=>simp only[hq] at h;cases h
  |tail _ he=>
   refine qV ?_ e' he hb
   cases hq:Region.binds .any e with
   |false=>rw[hq] at h;exact h
   |true=>
    rw[hq] at h
    cases hq':Nat.blt e.on i with
    |true=>simp only[hq'] at h;exact h
    |false=>simp only[hq'] at h;cases h
theorem Hf {s:Nat} {o:Oper} {l:List Oper} (h:yQ s (o::l)=true):Di s o.after.toList=true/\yQ (s+1) l=true:=by
 rw[yQ] at h
 cases hq:Di s o.after.toList with
 |false=>rw[hq] at h;cases h
 |true=>rw[hq] at h;exact ⟨rfl,h⟩
theorem Hh (l:List Oper):∀(s i:Nat) (o:Oper),yQ s l=true->l[i]? = some o->∀e∈o.after.toList,Region.binds .any e=true->e.on<s+i:=by
 induction l with
 |nil=>intro s i o _ hi;simp at hi
 |cons p l ih=>
  intro s i o h hi e he hb
  obtain ⟨h1,h2⟩:=Hf h
  cases i with
  |zero=>simp at hi;subst hi;exact qV h1 e he hb
  |succ i=>
   have:=ih (s+1) i o h2 (by simpa using hi) e he hb
   omega
theorem Hl {l:List Oper} (hL:yQ 0 l=true) {D:Nat->Bool}
  (hD:∀i,i<l.length->(∃o,l[i]? = some o/\∃e∈o.after,Region.binds .any e=true/\D e.on=false)\/D i=true):∀i,i<l.length->D i=true:=by
 intro i
 induction i using Nat.strongRecOn with
 |_ i ih=>
  intro hi
  rcases hD i hi with ⟨o,ho,e,he,hb,hf⟩|h
  ·have hlt:=Hh l 0 i o hL ho e (by simpa using he) hb
   rw[ih _ (by omega) (by omega)] at hf
   cases hf
  ·exact h
theorem Kv {id:Nat} {S S':St} {l:List Tr} {β:Bt} {a:Act} {x:World} (hm:P.follows .mixedOrders=true) (h:TraceR P ops β.c S.n ops S l S') (hck:chk 0 (l.map Tr.mk') (dC ops []) []=true) (hL:yQ 0 ops=true) (ho:vD l) (hR:Rep β S a x)
  (hk:∀β' a' x',Nx S.q S'.W β x β' x'->Rep β' S' a' x'->Q .normal a' x'):(Code.region id ops.toArray true).wp P Q a x:=by
 obtain ⟨hlen,hE,hH,hat⟩:=zN h
 obtain ⟨mn,mm,mW,mq⟩:=T8 h
 obtain ⟨_,hpair⟩:=wI hck
 have stD:∃st:(Nat->Bool)->St,∀D,st D=⟨B3 U4 l D 0 S.E,B3 Y3 l D 0 S.H,S'.n,S.m,S'.W,S'.q⟩:=⟨_,fun D=>rfl⟩
 obtain ⟨st,hst⟩:=stD
 have slD:∀D k,(st D).sl k=match lk (B3 U4 l D 0 S.E) k with|some v=>v|none=>.u:=fun D k=>by rw[hst];rfl
 have blD:∀D k,(st D).blk k=match lk (B3 Y3 l D 0 S.H) k with|some v=>v|none=>none:=fun D k=>by rw[hst];rfl
  -- what interferes is in order
 have ord:∀(D:Nat->Bool) (i j:Nat) (ti tj:Tr) (o:Oper),l[i]? = some ti->l[j]? = some tj->ops[i]? = some o->i≠j->D i=false->(∀e∈o.after,Region.binds .any e=true->D e.on=true)->sB (dC ops []) D->
   (∀k,((tj.mk'.wS.testBit k=true/\(ti.mk'.rS.testBit k=true\/ti.mk'.wS.testBit k=true))\/(tj.mk'.wH.testBit k=true/\(ti.mk'.rH.testBit k=true\/ti.mk'.wH.testBit k=true)))->D j=decide (j<i)):=by
  intro D i j ti tj o hi hj hoi hne hDi hdep hcl k hcon
  by_cases hji:j<i
  ·rw[decide_eq_true hji]
   rcases hpair j i tj.mk' ti.mk' (by simp[hj]) (by simp[hi]) hji with hc|hc
   ·obtain ⟨b1,b2,b3,b4⟩:=bits hc k
    rcases hcon with hcon|hcon
    ·exact absurd hcon b1
    ·exact absurd hcon b3
   ·rw[show 0+j=j by omega] at hc
    exact kA hcl hoi hdep j hc
  ·rw[decide_eq_false hji]
   rcases hpair i j ti.mk' tj.mk' (by simp[hi]) (by simp[hj]) (by omega) with hc|hc
   ·obtain ⟨b1,b2,b3,b4⟩:=bits hc k
    rcases hcon with ⟨w,r|r⟩|⟨w,r|r⟩
    ·exact absurd ⟨r,w⟩ b2
    ·exact absurd ⟨r,.inr w⟩ b1
    ·exact absurd ⟨r,w⟩ b4
    ·exact absurd ⟨r,.inr w⟩ b3
   ·rw[show 0+i=i by omega] at hc
    cases hq:D j with
    |false=>rfl
    |true=>rw[hcl j hq i hc] at hDi;cases hDi
 refine X0 hm (fun D a' x'=>∃β',Rep β' (st D) a' x'/\Nx S.q S'.W β x β' x'/\(∀i t,l[i]? = some t->D i=false->∀id,t.n<=id->id<t.n+t.e.nw->β' id=none/\β'.c id=none)/\(∀id v,id<S.n->β'.c id=some v->β.c id=some v)/\sB (dC ops []) D) ?_ ?_ ?_
 ·
  refine ⟨β,⟨fun t=>?_,by rw[hst];exact hR.size,hR.defs,fun id b k hb hk'=>?_,hR.inj,fun i b hb=>⟨(hR.lt i b hb).1,by rw[hst];exact Nat.lt_of_lt_of_le (hR.lt i b hb).2 mn⟩,fun i v hv=>by rw[hst];exact Nat.lt_of_lt_of_le (hR.ltc i v hv) mn,by rw[hst];exact mq▸Nat.le_trans hR.q mn⟩,⟨fun _ _=>rfl,fun _ _=>rfl,fun id b e=>(Nat.lt_or_ge id S.q).elim (fun h=>.inl ⟨h,e⟩) fun h=>.inr ⟨h,.inr ⟨id,h,e⟩⟩,rfl,rfl,rfl,Nat.le_refl _,fun _ _ _=>rfl⟩,?_,fun _ _ _ h=>h,?_⟩
  ·rw[slD,S7 _ _ _ _ _ (fun _ _=>rfl)];exact hR.sl t
  ·rw[blD,S7 _ _ _ _ _ (fun _ _=>rfl)] at hk';exact (hR.blk id b k hb hk').ext (Ext.refl β) rfl
  ·intro i t ht _ id h1 h2
   obtain ⟨_,_,_,_,_,_,_,_,_,_,_,_,h11,_⟩:=hat i t ht
   constructor
   ·cases hq:β id with
    |none=>rfl
    |some b=>have:=(hR.lt id b hq).2;omega
   ·cases hq:β.c id with
    |none=>rfl
    |some b=>have:=hR.ltc id b hq;omega
  ·intro j hj;cases hj
 ·
  rintro D a' x' i o hoi hDi hdep ⟨β',hR',hN',hnone,hc0,hcl⟩
  have hoi':ops[i]? = some o:=by simpa using hoi
  have hil:i<l.length:=by rw[hlen];exact (List.getElem?_eq_some_iff.1 hoi').1
  obtain ⟨t,ht⟩:∃t,l[i]? = some t:=⟨l[i],List.getElem?_eq_getElem hil⟩
  obtain ⟨o',Si,k1,k2,k3,k4,k5,k6,k7,k8,k9,k10,k11,k12,k13,k14,k15⟩:=hat i t ht
  rw[hoi'] at k1;cases k1
  have hord:=fun j tj (hj:l[j]? = some tj) (hne:i≠j)=>ord D i j t tj o ht hj hoi' hne hDi hdep hcl
  have hsl:∀k∈J6 ops o,(Si.sl k).den β' (a'.eval (.tmp k)):=by
   intro k hkr
   have:Si.sl k=(st D).sl k:=by
    have hcg:=P1 U4 k l D (upto i) 0 S.E S.E (fun j tj hj hs=>by
     rw[show 0+j=j by omega]
     by_cases hij:i=j
     ·subst hij;rw[hDi];simp[upto]
     ·exact hord j tj hj hij k (.inl ⟨oK hs,.inl (fY (by rw[k4];exact hkr))⟩)) rfl
    rw[slD,hcg]
    unfold St.sl
    rw[k9]
    try rfl
   rw[this];exact hR'.sl k
  have hrd:∀id∈t.e.rd,∀b k,β' id=some b->Si.blk id=some k->y9 β' x' b k:=by
   intro id hid b k hb hbk
   have:Si.blk id=(st D).blk id:=by
    have hcg:=P1 Y3 id l D (upto i) 0 S.H S.H (fun j tj hj hs=>by
     rw[show 0+j=j by omega]
     by_cases hij:i=j
     ·subst hij;rw[hDi];simp[upto]
     ·exact hord j tj hj hij id (.inr ⟨pH hs,.inl (fY hid)⟩)) rfl
    rw[blD,hcg]
    unfold St.blk
    rw[k10]
    try rfl
   rw[this] at hbk
   exact hR'.blk id b k hb hbk
  have hs:=k2 β' a' x' Q (ho.get ht) ⟨hR'.inj,fun i b h=>(hR'.lt i b h).1⟩ hsl hrd (fun id h1 h2=>hnone i t ht hDi id (by omega) (by omega)) (a5z (k15 (ho.get ht)) hc0)
  have fin:∀y β'' x'',Done Si.n t.e.nw β' x' t.e.wr t.e.v y β'' x''->∃β₂,Rep β₂ (st fun j=>if j=i then true else D j) (a'.put o.dst y) x''/\Nx S.q S'.W β x β₂ x''/\(∀i_1 t,l[i_1]? = some t->(if i_1=i then true else D i_1)=false->∀id,t.n<=id->id<t.n+t.e.nw->β₂ id=none/\β₂.c id=none)/\(∀id v,id<S.n->β₂.c id=some v->β.c id=some v)/\sB (dC ops []) (fun j=>if j=i then true else D j):=by
   intro y β'' x'' hD
   have hstm:∀D,(st D).m=S.m:=fun D=>by rw[hst]
   have hstn:∀D,(st D).n=S'.n:=fun D=>by rw[hst]
   have hq:=hR.q
   refine ⟨β'',⟨fun k=>?_,?_,by rw[kJ];exact hR'.defs,fun id b k hb hbk=>?_,hD.inj,fun id b hb=>⟨hD.lt id b hb,?_⟩,fun id v hv=>?_,by rw[hst];exact mq▸Nat.le_trans hR.q mn⟩,?_,?_,?_,?_⟩
   ·by_cases hdk:o.dst=some k
    ·have hlt:k<a'.tmps.size:=by
      rw[hR'.size,hstm]
      rw[hdk] at k5
      exact Nat.le_of_ble_eq_true k5
     have he:(st fun j=>if j=i then true else D j).sl k=t.e.v:=by
      rw[slD,P1 U4 k l _ (upto (0+i+1)) 0 S.E S.E (fun j tj hj hs=>?_) rfl,pE U4 l i 0 t S.E ht,S3]
      ·have:lk (U4 t) k=some t.e.v:=by unfold U4;rw[k3,hdk];exact o5 _ _ _
       rw[this]
      ·rw[show 0+j=j by omega]
       by_cases hij:j=i
       ·subst hij;simp[upto]
       ·rw[if_neg hij]
        have:=hord j tj hj (Ne.symm hij) k (.inl ⟨oK hs,.inr ?_⟩)
        ·rw[this];simp only[upto];congr 1;apply propext;omega
        ·exact oK (by unfold U4;rw[k3,hdk];rw[o5];rfl)
     rw[he,hdk,dO hlt]
     exact hD.den
    ·rw[kC hdk]
     have he:(st fun j=>if j=i then true else D j).sl k=(st D).sl k:=by
      rw[slD,slD,P1 U4 k l _ D 0 S.E S.E (fun j tj hj hs=>?_) rfl]
      rw[show 0+j=j by omega]
      by_cases hij:j=i
      ·subst hij
       rw[ht] at hj;cases hj
       exfalso
       unfold U4 at hs
       rw[k3] at hs
       cases hd:o.dst with
       |none=>rw[hd] at hs;cases hs
       |some d=>
        rw[hd] at hs
        rw[t6 _ _ (fun q=>hdk (by rw[hd,q]))] at hs
        cases hs
      ·rw[if_neg hij]
     rw[he]
     exact SV.ext hD.ext (hR'.sl k)
   ·rw[wM,hstm];rw[hR'.size,hstm]
   ·cases hl:lk t.e.wr id with
    |some kk=>
     have he:(st fun j=>if j=i then true else D j).blk id=some kk:=by
      have hen:lk (Y3 t) id=some (some kk):=by unfold Y3;rw[iO,hl];rfl
      rw[blD,P1 Y3 id l _ (upto (0+i+1)) 0 S.H S.H (fun j tj hj hs=>?_) rfl,pE Y3 l i 0 t S.H ht,S3,hen]
      rw[show 0+j=j by omega]
      by_cases hij:j=i
      ·subst hij;simp[upto]
      ·rw[if_neg hij]
       have:=hord j tj hj (Ne.symm hij) id (.inr ⟨pH hs,.inr (pH (by rw[hen];rfl))⟩)
       rw[this];simp only[upto];congr 1;apply propext;omega
     rw[he] at hbk;cases hbk
     exact hD.blk id b _ hb hl
    |none=>
     have he:(st fun j=>if j=i then true else D j).blk id=(st D).blk id:=by
      rw[blD,blD,P1 Y3 id l _ D 0 S.H S.H (fun j tj hj hs=>?_) rfl]
      rw[show 0+j=j by omega]
      by_cases hij:j=i
      ·subst hij
       rw[ht] at hj;cases hj
       exfalso
       unfold Y3 at hs
       rw[iO,hl] at hs
       cases hs
      ·rw[if_neg hij]
     rw[he] at hbk
     rcases hD.new id b hb with h1|⟨h1,h2,h3⟩
     ·refine (hR'.blk id b k h1 hbk).ext hD.ext (hD.keep b (hR'.lt id b h1).1 fun id' h'=>?_)
      rw[hR'.inj id' id b h' h1];exact hl
     ·obtain ⟨q,hq⟩:=jU k6 h1 h2
      rw[hl] at hq;cases hq
   ·rw[hstn]
    rcases hD.new id b hb with h1|⟨h1,h2,h3⟩
    ·have:=(hR'.lt id b h1).2;rw[hstn] at this;exact this
    ·omega
   ·rw[hstn]
    rcases hD.newc id v hv with h1|⟨h1,h2⟩
    ·have:=hR'.ltc id v h1;rw[hstn] at this;exact this
    ·omega
   ·
    refine ⟨fun id hi=>?_,fun id hi=>?_,fun id b hb=>?_,hD.os.trans hN'.os,hD.tape.trans hN'.tape,hD.output.trans hN'.output,Nat.le_trans hN'.size hD.size,fun k hk' hne=>?_⟩
    ·rw[<-hN'.old id hi]
     cases hq:β' id with
     |some b=>exact hD.ext.b id b hq
     |none=>
      cases hq':β'' id with
      |none=>rfl
      |some b=>
       rcases hD.new id b hq' with h1|⟨h1,_,_⟩
       ·rw[hq] at h1;cases h1
       ·omega
    ·rw[<-hN'.oldc id hi]
     cases hq:β'.c id with
     |some b=>exact hD.ext.c id b hq
     |none=>
      cases hq':β''.c id with
      |none=>rfl
      |some b=>
       rcases hD.newc id b hq' with h1|⟨h1,_⟩
       ·rw[hq] at h1;cases h1
       ·omega
    ·rcases hD.new id b hb with h1|⟨h1,h2,h3⟩
     ·exact hN'.new id b h1
     ·exact .inr ⟨by omega,.inl (Nat.le_trans hN'.size h3)⟩
    ·rw[hD.keep k (Nat.lt_of_lt_of_le hk' hN'.size) (fun id hid=>uZ fun hm'=>?_),hN'.keep k hk' hne]
     rcases hN'.new id k hid with ⟨h1,h2⟩|⟨h1,h2|⟨j,h2,h3⟩⟩
     ·obtain ⟨p,hp,e⟩:=List.mem_map.1 hm'
      refine (hne id h2).2 ?_
      rw[<-e];exact k13 p hp
     ·omega
     ·have:=(hne j h3).1;omega
   ·intro j tj hj hDj id h1 h2
    by_cases hij:j=i
    ·rw[if_pos hij] at hDj;cases hDj
    ·rw[if_neg hij] at hDj
     have hcl:∀n1,Si.n<=n1->n1<Si.n+t.e.nw->tj.n<=n1->n1<tj.n+tj.e.nw->False:=by
      intro n1 h3 h4 h5 h6
      by_cases hlt:i<j
      ·have:=k14 j tj hj hlt;omega
      ·obtain ⟨_,_,_,_,_,_,_,_,_,_,_,_,_,_,_,h14,_⟩:=hat j tj hj
       have:=h14 i t ht (by omega);omega
     constructor
     ·cases hq:β'' id with
      |none=>rfl
      |some b=>
       rcases hD.new id b hq with h3|⟨h3,h4,_⟩
       ·rw[(hnone j tj hj hDj id h1 h2).1] at h3;cases h3
       ·exact (hcl id h3 h4 h1 h2).elim
     ·cases hq:β''.c id with
      |none=>rfl
      |some b=>
       rcases hD.newc id b hq with h3|⟨h3,h4⟩
       ·rw[(hnone j tj hj hDj id h1 h2).2] at h3;cases h3
       ·exact (hcl id h3 h4 h1 h2).elim
   ·intro id v hid hv
    rcases hD.newc id v hv with h1|⟨h1,_⟩
    ·exact hc0 id v hid h1
    ·omega
   ·intro j hj b hb
    by_cases hij:j=i
    ·subst hij
     have:=kA hcl hoi' hdep b hb
     show (if b=j then true else D b)=true
     by_cases hbi:b=j
     ·rw[if_pos hbi]
     ·rw[if_neg hbi];exact this
    ·have hj:(if j=i then true else D j)=true:=hj
     rw[if_neg hij] at hj
     have:=hcl j hj b hb
     show (if b=i then true else D b)=true
     by_cases hbi:b=i
     ·rw[if_pos hbi]
     ·rw[if_neg hbi];exact this
  split
  ·rename_i hw
   rw[if_pos hw] at hs
   refine Oper.wp_mono ?_ hs
   rintro a'' x'' ⟨y,β'',rfl,hD⟩
   exact fin y β'' x'' hD
  ·rename_i hw
   rw[if_neg hw] at hs
   exact fin undef β' x' hs
 ·
  rintro D a' x' hD ⟨β',hR',hN',_,_,_⟩
  have hall:=Hl hL (D:=D) (fun i hi=>by simpa using hD i (by simpa using hi))
  refine hk β' a' x' hN' ?_
  have e1:B3 U4 l D 0 S.E=S'.E:=by
   rw[hE];exact tF U4 l D _ 0 S.E fun j hj=>by rw[show 0+j=j by omega];exact hall j (by omega)
  have e2:B3 Y3 l D 0 S.H=S'.H:=by
   rw[hH];exact tF Y3 l D _ 0 S.H fun j hj=>by rw[show 0+j=j by omega];exact hall j (by omega)
  have:st D=S':=by
   rw[hst,e1,e2,mm]
  rw[<-this];exact hR'
end
end Ab
namespace Ab
def Pa:List Prop->Prop->Prop
 |[],K=>K
 |p::l,K=>p/\Pa l K
def Ia:List Tr->Prop->Prop
 |[],K=>K
 |t::l,K=>Pa t.e.obs (Ia l K)
theorem wE:∀ {l:List Prop} {K:Prop},Pa l K↔Q5 l/\K
 |[],K=>by simp[Pa,Q5]
 |p::l,K=>by simp[Pa,Q5,wE (l:=l),and_assoc]
theorem mT:∀ {l:List Tr} {K:Prop},Ia l K↔vD l/\K
 |[],K=>by simp[Ia,vD]
 |t::l,K=>by simp[Ia,vD,wE,mT (l:=l),and_assoc]
def HB (b:Bool) (A B:Prop):Prop:=match b with|true=>A|false=>B
theorem HB.mk {b:Bool} {A B:Prop} (h:b=true->A) (k:b=false->B):HB b A B:=by
 cases b
 ·exact k rfl
 ·exact h rfl
structure Cz extends Cy where
 lp:Nat->Option (St->(Exit->St->Prop)->Prop):=fun _=>none
 un:Nat:=0
def O9 (S:St) (β:Bt) (x:World) (K:Exit->St->Prop):Exit->Act->World->Prop:=fun e a' x'=>
 ∃S' β',K e S'/\S'.q=S.q/\(∀i∈S.W,i<S.q->i∈S'.W)/\Nx S.q S'.W β x β' x'/\Rep β' S' a' x'
def WP (P:Program) (c:Code) (S:St) (K:Exit->St->Prop):Prop:=∀β a x,Rep β S a x->c.wp P (O9 S β x K) a x
def l3 (P:Program) (body:Code) (S:St) (T:(Exit->St->Prop)->Prop):Prop:=∀K,T K->WP P (.loop body) S K
inductive Bad:Nat->Nat->Prop
def Ng (P:Program) (cx:Cy) (ops:List Oper):List Oper->St->Nat->Nat
 |[],_,i=>i
 |o::r,S,i=>match stepG P (cx.at true) S ops o with
  |some e=>match dP S.m o.dst,T2 S.n e.nw e.wr with
   |true,true=>Ng P cx ops r (S.upd o.dst e) (i+1)
   |_,_=>i
  |none=>i
def c5a (q:Mk) (c:Nat):List (Nat×Mk)->Option Nat
 |[]=>none
 |(i,p)::l=>match cf p q || c.testBit i with|true=>c5a q c l|false=>some i
def a4x:Nat->List Mk->List Nat->List (Nat×Mk)->Nat
 |j,q::r,c::cs,B3=>match c5a q c B3 with|none=>a4x (j+1) r cs ((j,q)::B3)|some i=>1000+100*j+i
 |_,_,_,_=>1000
def c3b (ops:List Oper) (l:List Tr):Bool:=chk 0 (l.map Tr.mk') (dC ops []) []&&yQ 0 ops
def b2q (id:Nat) (P:Program) (cx:Cy) (ops:List Oper) (draw:Bool) (S:St) (K:St->Prop) (q:Option (List Tr×St)):Prop:=match q with
 |some (l,S')=>match draw with
  |false=>Ia l (K S')
  |true=>match c3b ops l with
   |true=>Ia l (K S')
   |false=>Bad id (a4x 0 (l.map Tr.mk') (dC ops []) [])
 |none=>Bad id (Ng P cx ops ops S 0)
def a2j:List Tr->Nat
 |[]=>0
 |t::l=>match t.e.dc with | []=>a2j l|_=>a2j l+1
def Oa (f:List Bool->Prop):Nat->List Bool->Prop
 |0,bs=>f bs
 |k+1,bs=>Oa f k (true::bs)/\Oa f k (false::bs)
def a7e (id:Nat) (P:Program) (cx:Cy) (ops:List Oper) (draw:Bool) (S:St) (K:St->Prop):Prop:=match trace P cx ops S.n ops [true,true,true,true] S with
 |some (l,_)=>Oa (fun bs=>b2q id P cx ops draw S K (trace P cx ops S.n ops bs S)) (a2j l) []
 |none=>Bad id (Ng P cx ops ops S 0)
theorem wA {f:List Bool->Prop}:∀(k:Nat) (bs:List Bool),Oa f k bs->∀cs:List Bool,cs.length=k->f (cs.reverse++bs)
 |0,bs,h,cs,hc=>by
  have:cs=[]:=List.eq_nil_of_length_eq_zero hc
  subst this;exact h
 |k+1,bs,h,cs,hc=>by
  obtain ⟨c,cs',rfl⟩:∃c cs',cs=c::cs':=by
   cases cs with
   |nil=>cases hc
   |cons c cs=>exact ⟨c,cs,rfl⟩
  have hc':cs'.reverse.length=k:=by simpa using hc
  have key:Oa f k (c::bs)->f ((c::cs').reverse++bs):=fun q=>by
   have:=wA k (c::bs) q cs' (by simpa using hc)
   simpa using this
  cases c with
  |true=>exact key h.1
  |false=>exact key h.2
def rid:Code->Nat
 |.region id _ _=>id
 |.seq a _=>rid a
 |.block _ a=>rid a
 |.loop a=>rid a
 |_=>0
def Bh (f:St->(Exit->St->Prop)->Prop) (K:Exit->St->Prop):Nat->St->Prop
 |0,_=>False
 |n+1,S=>f S fun e S'=>match e with | .normal=>Bh f K n S'|e=>K e S'
def ev (P:Program) (cx:Cz):Code->St->(Exit->St->Prop)->Prop
 |.skip,S,K=>K .normal S
 |.region id ops draw,S,K=>a7e id P cx.toCy ops.toList draw S (K .normal)
 |.seq c d,S,K=>ev P cx c S fun e S'=>match e with | .normal=>ev P cx d S' K|e=>K e S'
 |.cond t c d,S,K=>match D7 S t with
  |.c (.l (.v (.bool b)))=>HB b (ev P cx c S K) (ev P cx d S K)
  |_=>Bad 999 0
 |.block id c,S,K=>ev P cx c S fun e S'=>match e with
  |.exit i=>match Nat.beq i id with|true=>K .normal S'|false=>K (.exit i) S'
  |e=>K e S'
 |.exit id,S,K=>K (.exit id) S
 |.ret,S,K=>K .ret S
 |.loop c,S,K=>match cx.lp (rid c) with
  |some T=>l3 P c S (T S)/\T S K
  |none=>Bh (ev P cx c) K cx.un S
 |_,_,_=>False
section
variable {P:Program} {cx:Cz}
theorem O9.mono {S:St} {β:Bt} {x:World} {K K':Exit->St->Prop} (h:∀e S',K e S'->K' e S'):∀e a w,O9 S β x K e a w->O9 S β x K' e a w:=
 fun e a w ⟨S',β',k,r⟩=>⟨S',β',h e S' k,r⟩
theorem O9.chain {S S₁:St} {β β₁:Bt} {x x₁:World} {K:Exit->St->Prop} (hq:S₁.q=S.q) (hW:∀i∈S.W,i<S.q->i∈S₁.W) (hN:Nx S.q S₁.W β x β₁ x₁):∀e a w,O9 S₁ β₁ x₁ K e a w->O9 S β x K e a w:=
 fun e a w ⟨S',β',k,h1,h2,h3,h4⟩=>⟨S',β',k,h1.trans hq,fun i hi hl=>h2 i (hW i hi hl) (by rw[hq];exact hl),hN.trans (by rw[<-hq];exact h3) (by rw[<-hq];exact h2),h4⟩
theorem O9.here {S:St} {β:Bt} {x:World} {a:Act} {K:Exit->St->Prop} {e:Exit} (hR:Rep β S a x) (h:K e S):O9 S β x K e a x:=
 ⟨S,β,h,rfl,fun _ h _=>h,Nx.refl,hR⟩
theorem Nv {β:Bt} {S:St} {a:Act} {x:World} (hR:Rep β S a x) (t:Operand):(D7 S t).den β (a.eval t):=
 lP (l:=[t]) (fun k _=>hR.sl k) t (by simp)
theorem WP.mono {c:Code} {S:St} {K K':Exit->St->Prop} (h:WP P c S K) (hk:∀e S',K e S'->K' e S'):WP P c S K':=
 fun β a x hR=>wp_mono (h β a x hR) (O9.mono hk)
theorem Ig (hm:P.follows .mixedOrders=true) {id:Nat} {ops:Array Oper} {draw:Bool} {S:St} {K:Exit->St->Prop} {cy:Cy} (h:a7e id P cy ops.toList draw S (K .normal)):WP P (.region id ops draw) S K:=by
 intro β a x hR
 unfold a7e at h
 split at h
 ·rename_i l₀ S₀ ht₀
  have hall:=wA _ _ h
  obtain ⟨l,S',ht,hf⟩:=aP β.c ops.toList (a2j l₀) S (b2q id P cy ops.toList draw S (K .normal)) (fun q=>nomatch q) (fun bs hb=>by
   have:=hall bs.reverse (by simpa using hb)
   simpa using this)
  obtain ⟨_,_,h3,h4⟩:=T8 ht
  have fin:K .normal S'->∀β' a' x',Nx S.q S'.W β x β' x'->Rep β' S' a' x'->O9 S β x K .normal a' x':=
   fun hk β' a' x' hN hR'=>⟨S',β',hk,h4.symm,fun i hi _=>h3 i hi,hN,hR'⟩
  unfold b2q at hf
  simp only at hf
  split at hf
  ·obtain ⟨ho,hk⟩:=mT.1 hf
   refine wp_region ?_
   have:=Ep (P:=P) (Q:=O9 S β x K) ops.toList 0 S S' l a x β (fun j=>by simp) ht (Nat.le_refl _) (fun _ _ _ h=>h) ho hR (fin hk)
   rw[List.range_eq_range']
   simpa using this
  ·split at hf
   ·rename_i hck
    simp only[c3b,Bool.and_eq_true] at hck
    obtain ⟨ho,hk⟩:=mT.1 hf
    have:=Kv (Q:=O9 S β x K) (id:=id) hm ht hck.1 hck.2 ho hR (fin hk)
    simpa using this
   ·exact nomatch hf
 ·exact nomatch h
theorem Jq {c d:Code} {S:St} {K:Exit->St->Prop} (h:WP P c S fun e S'=>match e with | .normal=>WP P d S' K|e=>K e S'):WP P (.seq c d) S K:=by
 intro β a x hR
 refine wp_seq (wp_mono (h β a x hR) ?_)
 rintro e a' x' ⟨S',β',k,h1,h2,h3,h4⟩
 cases e with
 |normal=>exact wp_mono (k β' a' x' h4) (O9.chain h1 h2 h3)
 |exit i=>exact ⟨S',β',k,h1,h2,h3,h4⟩
 |goto i=>exact ⟨S',β',k,h1,h2,h3,h4⟩
 |ret=>exact ⟨S',β',k,h1,h2,h3,h4⟩
 |panic i=>exact ⟨S',β',k,h1,h2,h3,h4⟩
 |outgrown=>exact ⟨S',β',k,h1,h2,h3,h4⟩
def jN (P:Program) (c:Code) (Q:Exit->Act->World->Prop) (a:Act) (w:World):Prop:=
 ∀(b:Frame) (k:List Item) (cs:List Frame),∃e a' w',Q e a' w'/\Arrives P (lone (b.at a (.code c::.inLoop c::k)) cs w) b k cs e a' w'
theorem sD {c:Code} {Q:Exit->Act->World->Prop} {a:Act} {w:World} (h:jN P c Q a w):(Code.loop c).wp P Q a w:=
 fun b k cs=>let ⟨e,a',w',q,r⟩:=h b k cs;⟨e,a',w',q,.of_steps (.one step_loop) r⟩
theorem dH {c:Code} {Q:Exit->Act->World->Prop} {a:Act} {w:World} (h:c.wp P (Exit.then (fun a' w'=>jN P c Q a' w') Q) a w):jN P c Q a w:=by
 intro b k cs
 obtain ⟨e,a₁,w₁,hq,harr⟩:=h b (.inLoop c::k) cs
 cases e with
 |normal=>
  obtain ⟨e₂,a₂,w₂,hq₂,harr₂⟩:=hq b k cs
  exact ⟨e₂,a₂,w₂,hq₂,.of_steps (Steps.trans harr (.one step_inLoop)) harr₂⟩
 |exit id=>exact ⟨_,a₁,w₁,hq,.pass (x:=.inLoop c) rfl (fun _ _=>.inl (by simp)) harr⟩
 |goto l=>exact ⟨_,a₁,w₁,hq,.pass (x:=.inLoop c) rfl (fun _ _=>.inl (by simp)) harr⟩
 |ret=>exact ⟨_,a₁,w₁,hq,.pass (x:=.inLoop c) rfl (fun _ _=>.inl (by simp)) harr⟩
 |panic ch=>exact ⟨_,a₁,w₁,hq,.pass (x:=.inLoop c) rfl (fun _ _=>.inl (by simp)) harr⟩
 |outgrown=>exact ⟨_,a₁,w₁,hq,.pass (x:=.inLoop c) rfl (fun _ _=>.inl (by simp)) harr⟩
theorem V4 {c:Code} {Q Q':Exit->Act->World->Prop} {a:Act} {w:World} (h:jN P c Q a w) (hq:∀e a w,Q e a w->Q' e a w):jN P c Q' a w:=
 fun b k cs=>let ⟨e,a',w',q,r⟩:=h b k cs;⟨e,a',w',hq _ _ _ q,r⟩
def z4 (P:Program) (c:Code) (S:St) (K:Exit->St->Prop):Prop:=∀β a x,Rep β S a x->jN P c (O9 S β x K) a x
theorem z4.wp {c:Code} {S:St} {K:Exit->St->Prop} (h:z4 P c S K):WP P (.loop c) S K:=fun β a x hR=>sD (h β a x hR)
theorem z4.step {c:Code} {S:St} {K:Exit->St->Prop} (h:WP P c S fun e S'=>match e with | .normal=>z4 P c S' K|e=>K e S'):z4 P c S K:=by
 intro β a x hR
 refine dH (wp_mono (h β a x hR) ?_)
 rintro e a' x' ⟨S',β',k,h1,h2,h3,h4⟩
 cases e with
 |normal=>exact V4 (k β' a' x' h4) (O9.chain h1 h2 h3)
 |exit i=>exact ⟨S',β',k,h1,h2,h3,h4⟩
 |goto i=>exact ⟨S',β',k,h1,h2,h3,h4⟩
 |ret=>exact ⟨S',β',k,h1,h2,h3,h4⟩
 |panic i=>exact ⟨S',β',k,h1,h2,h3,h4⟩
 |outgrown=>exact ⟨S',β',k,h1,h2,h3,h4⟩
def cut (β:Bt) (n:Nat):Bt:=⟨fun i=>if i<n then β i else none,fun i=>if i<n then β.c i else none⟩
theorem y8 {β:Bt} {n id b:Nat} (h:cut β n id=some b):id<n/\β id=some b:=by
 have h:(if id<n then β id else none)=some b:=h
 split at h
 ·exact ⟨‹_›,h⟩
 ·cases h
theorem iD {β:Bt} {n id b:Nat} (h:(cut β n).c id=some b):id<n/\β.c id=some b:=by
 have h:(if id<n then β.c id else none)=some b:=h
 split at h
 ·exact ⟨‹_›,h⟩
 ·cases h
theorem uL {β:Bt} {n id:Nat} (h:id<n):cut β n id=β id:=if_pos h
theorem lH {β:Bt} {n id:Nat} (h:id<n):(cut β n).c id=β.c id:=if_pos h
def J7 (n:Nat) (s s':SV):Prop:=∀(β:Bt) (y:Value),s.den β y->s'.den (cut β n) y
def l6 (n:Nat):Option n6->n6->Prop
 |some k,k'=>∀(β:Bt) (x:World) (b:Nat),y9 β x b k->y9 (cut β n) x b k'
 |none,_=>False
structure Wk (S' S:St):Prop where
 q:S.q=S'.q
 W:∀i∈S'.W,i<S'.q->i∈S.W
 rep:∀β a x,Rep β S' a x->∃β₁,Rep β₁ S a x/\(∀id,id<S'.q->β₁ id=β id/\β₁.c id=β.c id)/\(∀id b,S'.q<=id->β₁ id=some b->∃j,S'.q<=j/\β j=some b)
theorem Nx.wk {n:Nat} {W W':List Nat} {β β' β₁:Bt} {x x':World} (h:Nx n W β x β' x') (hW:∀i∈W,i<n->i∈W') (h1:∀id,id<n->β₁ id=β' id/\β₁.c id=β'.c id) (h2:∀id b,n<=id->β₁ id=some b->∃j,n<=j/\β' j=some b):Nx n W' β x β₁ x':=by
 refine ⟨fun id hi=>(h1 id hi).1.trans (h.old id hi),fun id hi=>(h1 id hi).2.trans (h.oldc id hi),fun id b hb=>?_,h.os,h.tape,h.output,h.size,fun k hk hne=>h.keep k hk fun id h1=>⟨(hne id h1).1,fun h3=>(hne id h1).2 (hW id h3 (hne id h1).1)⟩⟩
 rcases Nat.lt_or_ge id n with hid|hid
 ·rw[(h1 id hid).1] at hb;exact h.new id b hb
 ·obtain ⟨j,hj,hb⟩:=h2 id b hid hb
  rcases h.new j b hb with ⟨h4,_⟩|⟨_,h4⟩
  ·omega
  ·exact .inr ⟨hid,h4⟩
theorem z4.round {c:Code} {S:St} {K:Exit->St->Prop} (h:WP P c S fun e S'=>match e with | .normal=>∃S₁,Wk S' S₁/\z4 P c S₁ K|e=>K e S'):z4 P c S K:=by
 intro β a x hR
 refine dH (wp_mono (h β a x hR) ?_)
 rintro e a' x' ⟨S',β',k,h1,h2,h3,h4⟩
 cases e with
 |normal=>
  obtain ⟨S₁,q2,q3⟩:=k
  obtain ⟨β₁,r1,r2,r3⟩:=q2.rep β' a' x' h4
  rw[h1] at r2 r3
  have hW:=q2.W
  rw[h1] at hW
  exact V4 (q3 β₁ a' x' r1) (O9.chain (q2.q.trans h1) (fun i hi hl=>hW i (h2 i hi hl) hl) (h3.wk hW r2 r3))
 |exit i=>exact ⟨S',β',k,h1,h2,h3,h4⟩
 |goto i=>exact ⟨S',β',k,h1,h2,h3,h4⟩
 |ret=>exact ⟨S',β',k,h1,h2,h3,h4⟩
 |panic i=>exact ⟨S',β',k,h1,h2,h3,h4⟩
 |outgrown=>exact ⟨S',β',k,h1,h2,h3,h4⟩
theorem z4.weak {c:Code} {S S₁:St} {K:Exit->St->Prop} (hw:Wk S S₁) (h:z4 P c S₁ K):z4 P c S K:=by
 intro β a x hR
 obtain ⟨β₁,r1,r2,r3⟩:=hw.rep β a x hR
 exact V4 (h β₁ a x r1) (O9.chain hw.q hw.W ((Nx.refl (n:=S.q) (W:=S.W)).wk hw.W r2 r3))
theorem I4 (hm:P.follows .mixedOrders=true):∀(c:Code) (S:St) (K:Exit->St->Prop),ev P cx c S K->WP P c S K
 |.skip,S,K,h=>fun β a x hR=>wp_skip (O9.here hR h)
 |.region id ops draw,S,K,h=>Ig hm h
 |.seq c d,S,K,h=>Jq ((I4 hm c S _ h).mono fun e S' hk=>by
   cases e with
   |normal=>exact I4 hm d S' K hk
   |exit i=>exact hk
   |goto i=>exact hk
   |ret=>exact hk
   |panic i=>exact hk
   |outgrown=>exact hk)
 |.cond t c d,S,K,h=>by
  intro β a x hR
  unfold ev at h
  split at h
  ·rename_i b hv
   have ht:=Nv hR t
   rw[hv] at ht
   refine wp_cond ht.1 ?_
   cases b with
   |true=>exact I4 hm c S K h β a x hR
   |false=>exact I4 hm d S K h β a x hR
  ·exact nomatch h
 |.block id c,S,K,h=>by
  intro β a x hR
  refine wp_block (wp_mono (I4 hm c S _ h β a x hR) ?_)
  rintro e a' x' ⟨S',β',k,h1,h2,h3,h4⟩
  cases e with
  |exit i=>
   show if i=id then O9 S β x K .normal a' x' else O9 S β x K (.exit i) a' x'
   simp only at k
   split at k
   ·rename_i hb
    rw[if_pos (Nat.eq_of_beq_eq_true hb)]
    exact ⟨S',β',k,h1,h2,h3,h4⟩
   ·rename_i hb
    rw[if_neg (fun e=>by subst e;rw[Nat.beq_refl] at hb;cases hb)]
    exact ⟨S',β',k,h1,h2,h3,h4⟩
  |normal=>exact ⟨S',β',k,h1,h2,h3,h4⟩
  |goto i=>exact ⟨S',β',k,h1,h2,h3,h4⟩
  |ret=>exact ⟨S',β',k,h1,h2,h3,h4⟩
  |panic i=>exact ⟨S',β',k,h1,h2,h3,h4⟩
  |outgrown=>exact ⟨S',β',k,h1,h2,h3,h4⟩
 |.exit id,S,K,h=>fun β a x hR=>wp_exit (O9.here hR h)
 |.ret,S,K,h=>fun β a x hR=>wp_ret (O9.here hR h)
 |.loop c,S,K,h=>by
  unfold ev at h
  split at h
  ·exact h.1 K h.2
  ·have key:∀(n:Nat) (S:St),Bh (ev P cx c) K n S->z4 P c S K:=by
    intro n
    induction n with
    |zero=>intro S h;exact h.elim
    |succ n ih=>
     intro S h
     refine z4.step ((I4 hm c S _ h).mono fun e S' hk=>?_)
     cases e with
     |normal=>exact ih S' hk
     |exit i=>exact hk
     |goto i=>exact hk
     |ret=>exact hk
     |panic i=>exact hk
     |outgrown=>exact hk
   exact (key _ S h).wp
 |.rangeFunc _ _ _ _,S,K,h=>h.elim
 |.scope _,S,K,h=>h.elim
 |.label _,S,K,h=>h.elim
 |.goto _,S,K,h=>h.elim
 |.refuse _,S,K,h=>h.elim
end
end Ab
namespace Ab
def cx0:Cx:=⟨fun _=>none,fun _=>none,[],[],[],true,[],[]⟩
def vF (P:Program) (S:St):ResultVar->Option Cp
 |.tmp t=>match S.sl t with | .c x=>some x|_=>none
 |.cell t ty=>match W8 P cx0 0 S ty (S.sl t) with
  |some e=>match e.v with | .c x=>some x|_=>none
  |none=>none
def oC (P:Program) (S:St):List ResultVar->Option (List Cp)
 |[]=>some []
 |r::l=>match vF P S r,oC P S l with
  |some x,some xs=>some (x::xs)
  |_,_=>none
def a6h (P:Program) (S:St) (l:List ResultVar):Option SV:=match oC P S l with
 |some [x]=>some (.c x)
 |some xs=>some (.tup xs)
 |none=>none
def x8 (n:Nat):Nat->List Nat->Nat->Option Nat
 |k,[],id=>match Nat.blt id n with|true=>some id|false=>none
 |k,j::l,id=>match Nat.beq j id with|true=>some (n+k)|false=>x8 n (k+1) l id
def bY (ρ:Nat->Option Nat):List (Nat×Nat)->Option (List (Nat×Nat))
 |[]=>some []
 |(i,o)::l=>match ρ i,bY ρ l with
  |some j,some r=>some ((j,o)::r)
  |_,_=>none
def Leaf.rn (ρ:Nat->Option Nat):Leaf->Option Leaf
 |.v x=>some (.v x)
 |.p id off=>match ρ id with|some j=>some (.p j off)|none=>none
 |.f fn caps=>match bY ρ caps with|some r=>some (.f fn r)|none=>none
 |.s id off len=>match ρ id with|some j=>some (.s j off len)|none=>none
 |.o id len=>match ρ id with|some j=>some (.o j len)|none=>none
 |.u=>some .u
def W5 (ρ:Nat->Option Nat):List Leaf->Option (List Leaf)
 |[]=>some []
 |x::l=>match x.rn ρ,W5 ρ l with
  |some y,some r=>some (y::r)
  |_,_=>none
def Cp.rn (ρ:Nat->Option Nat):Cp->Option Cp
 |.l x=>match x.rn ρ with|some y=>some (.l y)|none=>none
 |.agg xs=>match W5 ρ xs with|some ys=>some (.agg ys)|none=>none
def yI (ρ:Nat->Option Nat):List Cp->Option (List Cp)
 |[]=>some []
 |x::l=>match x.rn ρ,yI ρ l with
  |some y,some r=>some (y::r)
  |_,_=>none
def SV.rn (ρ:Nat->Option Nat):SV->Option SV
 |.u=>some .u
 |.c x=>match x.rn ρ with|some y=>some (.c y)|none=>none
 |.tup xs=>match yI ρ xs with|some ys=>some (.tup ys)|none=>none
 |.g b x=>match x.rn ρ with|some y=>some (.g b y)|none=>none
def BT.rn (ρ:Nat->Option Nat):BT->Option BT
 |.t a=>some (.t a)
 |.r a sz id=>match ρ id with|some j=>some (.r a sz j)|none=>none
 |.y a=>some (.y a)
 |.e a=>some (.e a)
 |.x=>some .x
 |.q=>some .q
def n6.rn (ρ:Nat->Option Nat) (k:n6):Option n6:=match W5 ρ k.cs,k.ty.rn ρ with
 |some cs,some t=>some ⟨cs,t⟩
 |_,_=>none
structure RnTo (ρ:Nat->Option Nat) (β β':Bt):Prop where
 b:∀i j b,ρ i=some j->β i=some b->β' j=some b
 c:∀i j v,ρ i=some j->β.c i=some v->β'.c j=some v
section
variable {ρ:Nat->Option Nat} {β β':Bt} (hβ:RnTo ρ β β')
include hβ
theorem Gl:∀ {l r:List (Nat×Nat)} {ys:List Value},bY ρ l=some r->r9 (fun (c:Nat×Nat) z=>∃b,β c.1=some b/\z=.pointer (some ⟨b,c.2,none⟩)) l ys->r9 (fun (c:Nat×Nat) z=>∃b,β' c.1=some b/\z=.pointer (some ⟨b,c.2,none⟩)) r ys
 |[],r,[],h,_=>by simp only[bY,Option.some.injEq] at h;subst h;trivial
 |(i,o)::l,r,y::ys,h,hd=>by
  unfold bY at h
  split at h
  ·rename_i j r' h1 h2
   cases h
   obtain ⟨⟨b,hb,e⟩,hd⟩:=hd
   exact ⟨⟨b,hβ.b i j b h1 hb,e⟩,Gl h2 hd⟩
  ·cases h
theorem vI {x x':Leaf} {y:Value} (h:x.rn ρ=some x') (hd:x.den β y):x'.den β' y:=by
 cases x with
 |v z=>simp only[Leaf.rn,Option.some.injEq] at h;subst h;exact hd
 |p id off=>
  simp only[Leaf.rn] at h
  split at h
  ·rename_i j hj;cases h;obtain ⟨b,hb,e⟩:=hd;exact ⟨b,hβ.b id j b hj hb,e⟩
  ·cases h
 |f fn caps=>
  simp only[Leaf.rn] at h
  split at h
  ·rename_i r hr;cases h;obtain ⟨cs,hc,e⟩:=hd;exact ⟨cs,Gl hβ hr hc,e⟩
  ·cases h
 |s id off len=>
  simp only[Leaf.rn] at h
  split at h
  ·rename_i j hj;cases h;obtain ⟨b,cap,hb,hc,e⟩:=hd;exact ⟨b,cap,hβ.b id j b hj hb,hc,e⟩
  ·cases h
 |o id len=>
  simp only[Leaf.rn] at h
  split at h
  ·rename_i j hj;cases h
   rcases hd with ⟨h0,hc,e⟩|⟨b,cap,hb,hc,hle,e⟩
   ·exact .inl ⟨h0,hβ.c id j _ hj hc,e⟩
   ·exact .inr ⟨b,cap,hβ.b id j b hj hb,hβ.c id j _ hj hc,hle,e⟩
  ·cases h
 |u=>simp only[Leaf.rn,Option.some.injEq] at h;subst h;exact hd
theorem cS:∀ {l r:List Leaf} {ys:List Value},W5 ρ l=some r->r9 (Leaf.den β) l ys->r9 (Leaf.den β') r ys
 |[],r,[],h,_=>by simp only[W5,Option.some.injEq] at h;subst h;trivial
 |x::l,r,y::ys,h,hd=>by
  unfold W5 at h
  split at h
  ·rename_i x' r' h1 h2;cases h;exact ⟨vI hβ h1 hd.1,cS h2 hd.2⟩
  ·cases h
theorem Po {x x':Cp} {y:Value} (h:x.rn ρ=some x') (hd:x.den β y):x'.den β' y:=by
 cases x with
 |l z=>
  simp only[Cp.rn] at h
  split at h
  ·rename_i z' hz;cases h;exact vI hβ hz hd
  ·cases h
 |agg xs=>
  simp only[Cp.rn] at h
  split at h
  ·rename_i z' hz;cases h;obtain ⟨ys,e,hd⟩:=hd;exact ⟨ys,e,cS hβ hz hd⟩
  ·cases h
theorem Qb:∀ {l r:List Cp} {ys:List Value},yI ρ l=some r->r9 (Cp.den β) l ys->r9 (Cp.den β') r ys
 |[],r,[],h,_=>by simp only[yI,Option.some.injEq] at h;subst h;trivial
 |x::l,r,y::ys,h,hd=>by
  unfold yI at h
  split at h
  ·rename_i x' r' h1 h2;cases h;exact ⟨Po hβ h1 hd.1,Qb h2 hd.2⟩
  ·cases h
theorem Fg {x x':SV} {y:Value} (h:x.rn ρ=some x') (hd:x.den β y):x'.den β' y:=by
 cases x with
 |u=>simp only[SV.rn,Option.some.injEq] at h;subst h;trivial
 |c z=>
  simp only[SV.rn] at h
  split at h
  ·rename_i z' hz;cases h;exact Po hβ (x:=z) (x':=z') hz hd
  ·cases h
 |tup xs=>
  simp only[SV.rn] at h
  split at h
  ·rename_i z' hz;cases h;obtain ⟨ys,e,hd⟩:=hd;exact ⟨ys,e,Qb hβ hz hd⟩
  ·cases h
 |g b z=>
  simp only[SV.rn] at h
  split at h
  ·rename_i z' hz;cases h;exact ⟨fun q=>Po hβ hz (hd.1 q),hd.2⟩
  ·cases h
theorem BT.rn_ty {t t':BT} (h:t.rn ρ=some t'):t'.ty=t.ty/\((t=.x->t'=.x)/\(t=.q->t'=.q))/\(∀l m,t.room β l m->t'.room β' l m)/\∀m,t'.fr m=t.fr m:=by
 cases t with
 |e a=>simp only[BT.rn,Option.some.injEq] at h;subst h;exact ⟨rfl,⟨fun h=>h,fun h=>h⟩,fun _ _ h=>h,fun _=>rfl⟩
 |t a=>simp only[BT.rn,Option.some.injEq] at h;subst h;exact ⟨rfl,⟨fun h=>h,fun h=>h⟩,fun _ _ _=>trivial,fun _=>rfl⟩
 |y a=>simp only[BT.rn,Option.some.injEq] at h;subst h;exact ⟨rfl,⟨fun h=>h,fun h=>h⟩,fun _ _ _=>trivial,fun _=>rfl⟩
 |q=>simp only[BT.rn,Option.some.injEq] at h;subst h;exact ⟨rfl,⟨fun h=>h,fun h=>h⟩,fun _ _ h=>h,fun _=>rfl⟩
 |x=>simp only[BT.rn,Option.some.injEq] at h;subst h;exact ⟨rfl,⟨fun h=>h,fun h=>h⟩,fun _ _ _=>trivial,fun _=>rfl⟩
 |r a sz id=>
  simp only[BT.rn] at h
  split at h
  ·rename_i j hj
   cases h
   exact ⟨rfl,⟨fun h=>(by cases h),fun h=>(by cases h)⟩,fun _ m ⟨v,hv,hl⟩=>⟨v,hβ.c id j v hj hv,hl⟩,fun _=>rfl⟩
  ·cases h
omit hβ in
theorem Ac:∀ {l r:List Leaf} {i:Nat} {y:Leaf},W5 ρ l=some r->r[i]? = some y->∃z,l[i]? = some z/\z.rn ρ=some y
 |[],r,i,y,h,hi=>by simp only[W5,Option.some.injEq] at h;subst h;simp at hi
 |x::l,r,i,y,h,hi=>by
  unfold W5 at h
  split at h
  ·rename_i x' r' h1 h2
   cases h
   cases i with
   |zero=>simp only[List.getElem?_cons_zero,Option.some.injEq] at hi;subst hi;exact ⟨x,rfl,h1⟩
   |succ i=>exact Ac (i:=i) h2 (by simpa using hi)
  ·cases h
theorem Bf {x:World} {b:Nat} {k k':n6} (h:k.rn ρ=some k') (hd:y9 β x b k):y9 β' x b k':=by
 unfold n6.rn at h
 split at h
 ·rename_i cs t hc ht
  cases h
  obtain ⟨q1,q2,q3,q4⟩:=BT.rn_ty hβ ht
  rcases hd with (⟨h1,h2⟩|⟨h1,h2⟩)|⟨ys,zs,h1,h2,h3⟩
  ·rw[h2] at hc
   simp only[W5,Option.some.injEq] at hc
   exact .inl (.inl ⟨q2.1 h1,hc.symm⟩)
  ·refine .inl (.inr ⟨q2.2 h1,fun i l hl=>?_⟩)
   obtain ⟨z,hz,hr⟩:=Ac hc hl
   rcases h2 i z hz with h|⟨y,hy,hd⟩
   ·subst h
    simp only[Leaf.rn,Option.some.injEq] at hr
    exact .inl hr.symm
   ·exact .inr ⟨y,hy,vI hβ hr hd⟩
  ·exact .inr ⟨ys,zs,by rw[h1];simp only[q1,q4],cS hβ hc h2,q3 _ _ h3⟩
 ·cases h
end
def vL (n:Nat) (s:SV):Bool:=(s.rn (x8 n 0 [])).isSome
theorem T0 {n i j:Nat} (h:x8 n 0 [] i=some j):j=i/\i<n:=by
 unfold x8 at h
 split at h
 ·rename_i hb;cases h;exact ⟨rfl,Nat.le_of_ble_eq_true hb⟩
 ·cases h
theorem xZ {n:Nat}:∀ {l r:List (Nat×Nat)},bY (x8 n 0 []) l=some r->r=l
 |[],r,h=>by simp only[bY,Option.some.injEq] at h;exact h.symm
 |(i,o)::l,r,h=>by
  unfold bY at h
  split at h
  ·rename_i j r' h1 h2;cases h;rw[(T0 h1).1,xZ h2]
  ·cases h
theorem wD {n:Nat} {x x':Leaf} (h:x.rn (x8 n 0 [])=some x'):x'=x:=by
 cases x with
 |v z=>simp only[Leaf.rn,Option.some.injEq] at h;exact h.symm
 |p id off=>
  simp only[Leaf.rn] at h
  split at h
  ·rename_i j hj;cases h;rw[(T0 hj).1]
  ·cases h
 |f fn caps=>
  simp only[Leaf.rn] at h
  split at h
  ·rename_i r hr;cases h;rw[xZ hr]
  ·cases h
 |s id off len=>
  simp only[Leaf.rn] at h
  split at h
  ·rename_i j hj;cases h;rw[(T0 hj).1]
  ·cases h
 |o id len=>
  simp only[Leaf.rn] at h
  split at h
  ·rename_i j hj;cases h;rw[(T0 hj).1]
  ·cases h
 |u=>simp only[Leaf.rn,Option.some.injEq] at h;exact h.symm
theorem dU {n:Nat}:∀ {l r:List Leaf},W5 (x8 n 0 []) l=some r->r=l
 |[],r,h=>by simp only[W5,Option.some.injEq] at h;exact h.symm
 |x::l,r,h=>by
  unfold W5 at h
  split at h
  ·rename_i x' r' h1 h2;cases h;rw[wD h1,dU h2]
  ·cases h
theorem Dn {n:Nat} {x x':Cp} (h:x.rn (x8 n 0 [])=some x'):x'=x:=by
 cases x with
 |l z=>
  simp only[Cp.rn] at h
  split at h
  ·rename_i z' hz;cases h;rw[wD hz]
  ·cases h
 |agg xs=>
  simp only[Cp.rn] at h
  split at h
  ·rename_i z' hz;cases h;rw[dU hz]
  ·cases h
theorem Dt {n:Nat}:∀ {l r:List Cp},yI (x8 n 0 []) l=some r->r=l
 |[],r,h=>by simp only[yI,Option.some.injEq] at h;exact h.symm
 |x::l,r,h=>by
  unfold yI at h
  split at h
  ·rename_i x' r' h1 h2;cases h;rw[Dn h1,Dt h2]
  ·cases h
theorem b2g {n:Nat} {x x':SV} (h:x.rn (x8 n 0 [])=some x'):x'=x:=by
 cases x with
 |u=>simp only[SV.rn,Option.some.injEq] at h;exact h.symm
 |c z=>
  simp only[SV.rn] at h
  split at h
  ·rename_i z' hz;cases h;rw[Dn hz]
  ·cases h
 |tup xs=>
  simp only[SV.rn] at h
  split at h
  ·rename_i z' hz;cases h;rw[Dt hz]
  ·cases h
 |g b z=>
  simp only[SV.rn] at h
  split at h
  ·rename_i z' hz;cases h;rw[Dn hz]
  ·cases h
structure LtTo (n:Nat) (β β':Bt):Prop where
 b:∀i b,i<n->β i=some b->β' i=some b
 c:∀i v,i<n->β.c i=some v->β'.c i=some v
theorem LtTo.rn {n:Nat} {β β':Bt} (h:LtTo n β β'):RnTo (x8 n 0 []) β β':=
 ⟨fun i j b hi hb=>by obtain ⟨e,hl⟩:=T0 hi;rw[e];exact h.b i b hl hb,fun i j b hi hb=>by obtain ⟨e,hl⟩:=T0 hi;rw[e];exact h.c i b hl hb⟩
theorem iE {n:Nat} {β:Bt}:LtTo n β (cut β n):=⟨fun i b hi hb=>(uL hi).trans hb,fun i b hi hb=>(lH hi).trans hb⟩
theorem sK {n:Nat} {s:SV} {β β':Bt} {y:Value} (h:vL n s=true) (hd:s.den β y) (hβ:LtTo n β β'):s.den β' y:=by
 obtain ⟨s',hs⟩:=Option.isSome_iff_exists.1 h
 have:=Fg hβ.rn hs hd
 rw[b2g hs] at this
 exact this
theorem lO {n:Nat} {β β':Bt} (hβ:LtTo n β β'):∀ {l:List SV} {ys:List Value},(l.all (vL n))=true->r9 (SV.den β) l ys->r9 (SV.den β') l ys
 |[],[],_,_=>trivial
 |s::l,y::ys,h,hd=>by
  simp only[List.all_cons,Bool.and_eq_true] at h
  exact ⟨sK h.1 hd.1 hβ,lO hβ h.2 hd.2⟩
def L4 (n:Nat) (k:n6):Bool:=(W5 (x8 n 0 []) k.cs).isSome&&(k.ty.rn (x8 n 0 [])).isSome
theorem b0v {n:Nat} {t t':BT} (h:t.rn (x8 n 0 [])=some t'):t'=t:=by
 cases t with
 |t a=>simp only[BT.rn,Option.some.injEq] at h;exact h.symm
 |y a=>simp only[BT.rn,Option.some.injEq] at h;exact h.symm
 |e a=>simp only[BT.rn,Option.some.injEq] at h;exact h.symm
 |x=>simp only[BT.rn,Option.some.injEq] at h;exact h.symm
 |q=>simp only[BT.rn,Option.some.injEq] at h;exact h.symm
 |r a sz id=>
  simp only[BT.rn] at h
  split at h
  ·rename_i j hj;cases h;rw[(T0 hj).1]
  ·cases h
theorem iU {n:Nat} {k:n6} {β β':Bt} {x:World} {b:Nat} (h:L4 n k=true) (hd:y9 β x b k) (hβ:LtTo n β β'):y9 β' x b k:=by
 simp only[L4,Bool.and_eq_true] at h
 obtain ⟨cs,hc⟩:=Option.isSome_iff_exists.1 h.1
 obtain ⟨t,ht⟩:=Option.isSome_iff_exists.1 h.2
 refine Bf hβ.rn (k:=k) ?_ hd
 unfold n6.rn
 rw[hc,ht,dU hc,b0v ht]
def zZ:Nat->List SV->List (Nat×SV)
 |_,[]=>[]
 |i,s::l=>(i,s)::zZ (i+1) l
def Jz (args:List SV) (H:List (Nat×n6)) (n m:Nat):St:=⟨zZ 0 args,H.map fun p=>(p.1,some p.2),n,m,[],n⟩
theorem uV:∀ {l:List SV} {i t:Nat} {v:SV},lk (zZ i l) t=some v->i<=t/\l[t-i]? = some v
 |[],i,t,v,h=>by cases h
 |s::l,i,t,v,h=>by
  unfold zZ at h
  by_cases e:i=t
  ·subst e;rw[o5] at h;cases h;simp
  ·rw[t6 _ _ e] at h
   obtain ⟨h1,h2⟩:=uV h
   refine ⟨by omega,?_⟩
   rw[show t-i=(t-(i+1))+1 by omega]
   simpa using h2
theorem Rb {P:Program} {cx:Cx} {d:Nat} {S:St} {β:Bt} {x:World} {t:Nat} {sv:SV} {y:Value} {e:Eff} (hy:sv.den β y) (h:W8 P cx d S t sv=some e) (hob:Q5 e.obs)
  (hrd:∀id b k,β id=some b->S.blk id=some k->y9 β x b k):∃z,(Instr.loadAt t y).run P x=.ok z x/\e.v.den β z:=by
 unfold W8 at h
 split at h
 ·rename_i id off
  obtain ⟨b,hb,hy⟩:=hy
  split at h
  ·rename_i k hk
   obtain ⟨hk,hnq⟩:=O5 hk
   have hB:=hrd id b k hb hk
   split at h
   ·rename_i hag
    split at h
    ·rename_i os hos
     cases h
     have hlt:=z8 hos hob (fun q=>Nat.le_of_ble_eq_true q)
     obtain ⟨y',hc,hd⟩:=hB.cell hnq (Z2 hlt)
     refine ⟨y',?_,hd⟩
     rw[hy]
     simp[Instr.loadAt,Instr.sureAddr,loadVar,V0 hag,load,Sem.run,hc]
    ·cases h
   ·rename_i m hag hsz
    split at h
    ·rename_i os hos
     cases h
     have hlt:=z8 hos hob (fun q=>Nat.le_of_ble_eq_true q)
     obtain ⟨ys,hr,hl,hd⟩:=hB.range hnq hlt
     obtain ⟨d,hd1,hd2⟩:=oD hag
     refine ⟨.agg ys.toArray,?_,ys,rfl,hd⟩
     rw[hy]
     exact run_loadAt_mid x b off t ys d hr hd1 hd2 (by rw[gJ hsz,hl])
    ·cases h
   ·cases h
  ·split at h
   ·rename_i k hk hag _
    cases h
    obtain ⟨hlt,hu,_⟩:=hob
    obtain ⟨y',hc,hd⟩:=(hrd id b k hb hk).cellU (Z2 hlt) hu
    refine ⟨y',?_,hd⟩
    rw[hy]
    simp[Instr.loadAt,Instr.sureAddr,loadVar,V0 hag,load,Sem.run,hc]
   ·cases h
 ·cases h
theorem Hi {b:Bool} {p:Prop} {os:List Prop} (h:R1 false b p=some os):Q5 os:=by
 unfold R1 at h
 cases b with
 |true=>simp only[Option.some.injEq] at h;subst h;trivial
 |false=>cases h
theorem Lp {P:Program} {S:St} {t d:Nat} {sv:SV} {e:Eff} (h:W8 P cx0 d S t sv=some e):Q5 e.obs:=by
 have hm:J9 d cx0.sym=false:=rfl
 unfold W8 at h
 rw[hm] at h
 (repeat' split at h)<;>first|(cases h;done)|skip
 all_goals (rename_i os hos;cases h;first|(exact Hi hos)|(cases hos))
theorem Mq {P:Program} {cx:Cx} {d:Nat} {S:St} {t:Nat} {sv:SV} {e:Eff} (h:W8 P cx d S t sv=some e):∃id off,sv=.c (.l (.p id off)):=by
 unfold W8 at h
 split at h
 ·exact ⟨_,_,rfl⟩
 ·cases h
theorem uX {P:Program} {S:St} {β:Bt} {a:Act} {x:World} (hR:Rep β S a x) {r:ResultVar} {c:Cp} (h:vF P S r=some c) :
  ∃y,(match r with | .tmp t=>pure (a.tmps.getD t undef) | .cell p t=>do loadVar t (<-asAddr (a.tmps.getD p undef)):Sem Value).run P x=.ok y x/\c.den β y:=by
 cases r with
 |tmp t=>
  simp only[vF] at h
  split at h
  ·rename_i z hz
   cases h
   have:=hR.sl t
   rw[hz] at this
   exact ⟨_,rfl,this⟩
  ·cases h
 |cell t ty=>
  simp only[vF] at h
  split at h
  ·rename_i e he
   split at h
   ·rename_i z hz
    cases h
    obtain ⟨y,hy,hd⟩:=Rb (hR.sl t) he (Lp he) hR.blk
    obtain ⟨id,off,hs⟩:=Mq he
    have hst:=hR.sl t
    rw[hs] at hst
    obtain ⟨b,hb,hp⟩:=hst
    have hp':a.tmps.getD t undef=.pointer (some ⟨b,off,none⟩):=hp
    rw[hz] at hd
    refine ⟨y,?_,hd⟩
    rw[hp] at hy
    simp only[hp']
    exact hy
   ·cases h
  ·cases h
theorem aN {P:Program} {S:St} {β:Bt} {a:Act} {x:World} (hR:Rep β S a x):∀ {l:List ResultVar} {xs:List Cp},oC P S l=some xs->
  ∃ys,(l.mapM fun | .tmp t=>pure (a.tmps.getD t undef) | .cell p t=>do loadVar t (<-asAddr (a.tmps.getD p undef)):Sem (List Value)).run P x=.ok ys x/\r9 (Cp.den β) xs ys
 |[],xs,h=>by simp only[oC,Option.some.injEq] at h;subst h;exact ⟨[],by simp,trivial⟩
 |r::l,xs,h=>by
  unfold oC at h
  split at h
  ·rename_i z zs h1 h2
   cases h
   obtain ⟨y,hy,hd⟩:=uX hR h1
   obtain ⟨ys,hys,hds⟩:=aN hR h2
   refine ⟨y::ys,?_,hd,hds⟩
   rw[List.mapM_cons,Sem.run_bind]
   cases r<;>(simp only at hy⊢;rw[hy];simp only[Result.andThen_ok,Sem.run_bind];rw[hys];rfl)
  ·cases h
theorem mZ {P:Program} {fn:Func} {S:St} {β:Bt} {a:Act} {x:World} (hR:Rep β S a x) {v:SV} (h:a6h P S fn.results.toList=some v):∃y,(results fn a.tmps).run P x=.ok y x/\v.den β y:=by
 unfold a6h at h
 have run:∀ys,(fn.results.toList.mapM fun | .tmp t=>pure (a.tmps.getD t undef) | .cell p t=>do loadVar t (<-asAddr (a.tmps.getD p undef)):Sem (List Value)).run P x=.ok ys x->
   (results fn a.tmps).run P x=.ok (if h:ys.toArray.size=1 then ys.toArray[0] else .tuple ys.toArray) x:=by
  intro ys hys
  have key:∀(s:Sem (List Value)),s.run P x=.ok ys x->(Functor.map List.toArray s).run P x=.ok ys.toArray x:=by
   intro s hs;rw[<-bind_pure_comp,Sem.run_bind,hs];rfl
  unfold results
  rw[Array.mapM_eq_mapM_toList,Sem.run_bind]
  exact (congrArg (fun r=>Result.andThen r _) (key _ hys)).trans rfl
 split at h
 ·rename_i z hz
  cases h
  obtain ⟨ys,hys,hd⟩:=aN hR hz
  match ys,hd with
  |[y],hd=>exact ⟨y,run [y] hys,hd.1⟩
 ·rename_i xs hne hz
  cases h
  obtain ⟨ys,hys,hd⟩:=aN hR hz
  refine ⟨.tuple ys.toArray,?_,ys,rfl,hd⟩
  rw[run ys hys]
  have hl:=hd.length
  have:¬ys.toArray.size=1:=by
   intro e
   have e':ys.length=1:=by simpa using e
   rw[e'] at hl
   match xs,hl,hz with
   |[x],_,hz=>exact hne x rfl
  rw[dif_neg this]
 ·cases h
end Ab
namespace Ab
def A5 (ρ:Nat->Option Nat) (k' k:n6):Prop:=∀(β β':Bt) (x:World) (b:Nat),RnTo ρ β β'->y9 β x b k'->y9 β' x b k
theorem A5.of {ρ:Nat->Option Nat} {k' k:n6} (h:k'.rn ρ=some k):A5 ρ k' k:=fun β β' x b hr hd=>Bf hr h hd
def qT (n:Nat) (nm:List Nat) (id:Nat):Nat:=match Nat.blt id n with|true=>id|false=>nm.getD (id-n) 0
def wrs (S:St) (n:Nat) (nm:List Nat):List (Nat×n6)->Prop
 |[]=>True
 |(id,k)::l=>match S.blk (qT n nm id) with
  |some k'=>A5 (x8 n 0 nm) k' k/\wrs S n nm l
  |none=>False
def wck (W:List Nat) (n:Nat) (wr:List (Nat×n6)):Bool:=W.all fun id=>Nat.ble n id || (lk wr id).isSome
def fin (P:Program) (rs:List ResultVar) (n:Nat) (v:SV) (wr:List (Nat×n6)) (nm:List Nat) (S:St):Prop:=match a6h P S rs with
 |some v'=>match v'.rn (x8 n 0 nm) with
  |some v''=>Le v'' v/\match wck S.W n wr with|true=>wrs S n nm wr|false=>False
  |none=>False
 |none=>False
def Ch (P:Program) (rs:List ResultVar) (n:Nat) (v:SV) (wr:List (Nat×n6)) (nm:List Nat):Exit->St->Prop
 |.normal,S=>fin P rs n v wr nm S
 |.ret,S=>fin P rs n v wr nm S
 |_,_=>False
def Fx:List Nat->Bool
 |[]=>true
 |j::l=>!J9 j l&&Fx l
def Q8 (args:List SV) (H:List (Nat×n6)) (n m:Nat) (wr:List (Nat×n6)) (nm:List Nat):Bool:=
 Nat.ble args.length m&&(args.all (vL n)&&(H.all (fun p=>L4 n p.2)&&(wr.all (fun p=>Nat.blt p.1 (n+nm.length))&&(nm.all (fun j=>Nat.ble n j)&&Fx nm))))
theorem nQ:∀ {l:List Nat} {i:Nat},J9 i l=true↔i∈l
 |[],i=>by simp[J9]
 |k::l,i=>by
  unfold J9
  by_cases h:k=i
  ·subst h;simp[Nat.beq_refl]
  ·have:Nat.beq k i=false:=by
    cases hb:Nat.beq k i with
    |false=>rfl
    |true=>exact absurd (Nat.eq_of_beq_eq_true hb) h
   simp[this,nQ (l:=l),Ne.symm h]
theorem Y4 {n:Nat}:∀ {nm:List Nat} {k i j:Nat},x8 n k nm i=some j->(j=i/\i<n)\/(∃q,nm[q]? = some i/\j=n+(k+q))
 |[],k,i,j,h=>.inl (by
   unfold x8 at h
   split at h
   ·rename_i hb;cases h;exact ⟨rfl,Nat.le_of_ble_eq_true hb⟩
   ·cases h)
 |m::l,k,i,j,h=>by
  unfold x8 at h
  split at h
  ·rename_i hb;cases h;exact .inr ⟨0,by simp[Nat.eq_of_beq_eq_true hb],by omega⟩
  ·rcases Y4 h with h'|⟨q,h1,h2⟩
   ·exact .inl h'
   ·exact .inr ⟨q+1,by simpa using h1,by omega⟩
theorem jD:∀ {l:List Nat} {i j:Nat} {v:Nat},Fx l=true->l[i]? = some v->l[j]? = some v->i=j
 |[],i,j,v,_,h,_=>by simp at h
 |a::l,i,j,v,hn,hi,hj=>by
  simp only[Fx,Bool.and_eq_true,Bool.not_eq_true'] at hn
  have hnot:a∉l:=fun hm=>by have:=nQ.2 hm;rw[this] at hn;exact absurd hn.1 (by simp)
  cases i with
  |zero=>
   cases j with
   |zero=>rfl
   |succ j=>
    simp at hi hj;subst hi
    exact absurd (List.mem_of_getElem? hj) hnot
  |succ i=>
   cases j with
   |zero=>
    simp at hi hj;subst hj
    exact absurd (List.mem_of_getElem? hi) hnot
   |succ j=>rw[jD (i:=i) (j:=j) hn.2 (by simpa using hi) (by simpa using hj)]
theorem nS {S:St} {n:Nat} {nm:List Nat}:∀ {wr:List (Nat×n6)},wrs S n nm wr->∀ {id k},lk wr id=some k->∃k',S.blk (qT n nm id)=some k'/\A5 (x8 n 0 nm) k' k
 |[],_,id,k,h=>by cases h
 |(i,q)::l,hw,id,k,h=>by
  unfold wrs at hw
  split at hw
  ·rename_i k' hk'
   by_cases e:i=id
   ·subst e;rw[o5] at h;cases h;exact ⟨k',hk',hw.1⟩
   ·rw[t6 _ _ e] at h;exact nS hw.2 h
  ·exact hw.elim
theorem lY {P:Program} {cx:Cz} (hm:P.follows .mixedOrders=true) {f:Nat} {fn:Func} {body:Code} (hf:P.funcs[f]? = some fn) (hb:fn.body=some body) (hent:j6 P f)
  {args:List SV} {H:List (Nat×n6)} {n:Nat} {v:SV} {wr:List (Nat×n6)} {nm:List Nat} (hck:Q8 args H n fn.ntmps wr nm=true) (h:ev P cx body (Jz args H n fn.ntmps) (Ch P fn.results.toList n v wr nm)):f4 P f args H n v wr nm.length:=by
 refine ⟨hent,fun β x vals hd hinj hlt hnone hH _=>?_⟩
 simp only[Q8,Bool.and_eq_true] at hck
 obtain ⟨c1,c2,c3,c4,c5,c6⟩:=hck
 have c1:=Nat.le_of_ble_eq_true c1
 have hd':=lO (iE (n:=n)) c2 hd
 have hdl:=hd.length
 have hR:Rep (cut β n) (Jz args H n fn.ntmps) {tmps:=vals.toArray++Array.replicate (fn.ntmps-vals.toArray.size) undef,defers:=[]} x:=by
  refine ⟨fun t=>?_,by simp[Jz];omega,rfl,fun id b k hb hk=>?_,fun i j b hi hj=>hinj i j b (y8 hi).2 (y8 hj).2,fun i b hb=>⟨hlt i b (y8 hb).2,(y8 hb).1⟩,fun i v hv=>(iD hv).1,Nat.le_refl _⟩
  ·show SV.den _ (match lk (zZ 0 args) t with|some v=>v|none=>.u) _
   cases hq:lk (zZ 0 args) t with
   |none=>trivial
   |some s=>
    obtain ⟨_,hs⟩:=uV hq
    obtain ⟨y,hy,hyd⟩:=hd'.get hs
    have hlt':t<vals.length:=(List.getElem?_eq_some_iff.1 hy).1
    have:Act.eval {tmps:=vals.toArray++Array.replicate (fn.ntmps-vals.toArray.size) undef,defers:=[]} (.tmp t)=y:=by
     show (vals.toArray++Array.replicate (fn.ntmps-vals.toArray.size) undef).getD t undef=y
     rw[Array.getD_eq_getD_getElem?,Array.getElem?_append_left (by simpa using hlt')]
     have hy':vals[t]? = some y:=by simpa using hy
     simp[hy']
    rw[this];exact hyd
  ·have hk':lk H id=some k:=by
    have:(Jz args H n fn.ntmps).blk id=match lk (H.map fun p=>(p.1,some p.2)) id with|some b=>b|none=>none:=rfl
    rw[this,iO] at hk
    cases hq:lk H id with
    |none=>rw[hq] at hk;cases hk
    |some k'=>rw[hq] at hk;exact hk
   exact iU ((List.all_eq_true.1 c3) _ (M3 hk')) (hH id b k (y8 hb).2 hk') iE
 have fin':∀S' β' a' x',fin P fn.results.toList n v wr nm S'->Nx n S'.W (cut β n) x β' x'->Rep β' S' a' x'->
   a'.defers=[]/\∃y,(results fn a'.tmps).run P x'=.ok y x'/\∃y' β'',Ending.returned y=.returned y'/\Done n nm.length β x wr v y' β'' x':=by
  intro S' β' a' x' hfin hN hR'
  unfold fin at hfin
  split at hfin
  ·rename_i v' hv'
   split at hfin
   ·rename_i v'' hv''
    obtain ⟨hle,hwr⟩:=hfin
    split at hwr
    ·rename_i hwck
     obtain ⟨y,hy,hyd⟩:=mZ hR' hv'
     obtain ⟨β₂,hβ₂⟩:∃g:Bt,g=⟨fun id=>if id<n then β id else if id<n+nm.length then (match nm[id-n]? with|some j=>β' j|none=>none) else β id,
      fun id=>if id<n then β.c id else if id<n+nm.length then (match nm[id-n]? with|some j=>β'.c j|none=>none) else β.c id⟩:=⟨_,rfl⟩
     refine ⟨hR'.defs,y,hy,y,β₂,rfl,?_⟩
     have b1:∀id,id<n->β₂ id=β id:=fun id hi=>by rw[hβ₂];exact if_pos hi
     have d1:∀id,id<n->β₂.c id=β.c id:=fun id hi=>by rw[hβ₂];exact if_pos hi
     have b2:∀q j,nm[q]? = some j->β₂ (n+q)=β' j:=fun q j hq=>by
      have hql:q<nm.length:=(List.getElem?_eq_some_iff.1 hq).1
      rw[hβ₂]
      show (if n+q<n then _ else _)=_
      rw[if_neg (by omega),if_pos (by omega),show n+q-n=q by omega,hq]
     have d2:∀q j,nm[q]? = some j->β₂.c (n+q)=β'.c j:=fun q j hq=>by
      have hql:q<nm.length:=(List.getElem?_eq_some_iff.1 hq).1
      rw[hβ₂]
      show (if n+q<n then _ else _)=_
      rw[if_neg (by omega),if_pos (by omega),show n+q-n=q by omega,hq]
     have b3:∀id,n+nm.length<=id->β₂ id=β id:=fun id hi=>by
      rw[hβ₂];show (if id<n then _ else _)=_;rw[if_neg (by omega),if_neg (by omega)]
     have d3:∀id,n+nm.length<=id->β₂.c id=β.c id:=fun id hi=>by
      rw[hβ₂];show (if id<n then _ else _)=_;rw[if_neg (by omega),if_neg (by omega)]
     have b4:∀id,id<n->β' id=β id:=fun id hi=>(hN.old id hi).trans (uL hi)
     have d4:∀id,id<n->β'.c id=β.c id:=fun id hi=>(hN.oldc id hi).trans (lH hi)
     have hnmge:∀q j,nm[q]? = some j->n<=j:=fun q j hq=>Nat.le_of_ble_eq_true ((List.all_eq_true.1 c5) j (List.mem_of_getElem? hq))
     have hnew:∀q j b,nm[q]? = some j->β' j=some b->x.heap.size<=b:=fun q j b hq hb=>by
      rcases hN.new j b hb with ⟨h1,_⟩|⟨_,h2|⟨i,h2,h3⟩⟩
      ·have:=hnmge q j hq;omega
      ·exact h2
      ·have:=(y8 h3).1;omega
          -- where a name of β₂ comes from
     have src:∀id b,β₂ id=some b->(β id=some b/\(id<n\/n+nm.length<=id))\/(∃q j,nm[q]? = some j/\id=n+q/\β' j=some b):=fun id b hb=>by
      by_cases h1:id<n
      ·rw[b1 id h1] at hb;exact .inl ⟨hb,.inl h1⟩
      ·by_cases h2:id<n+nm.length
       ·have hq:nm[id-n]? = some nm[id-n]:=List.getElem?_eq_getElem (by omega)
        have:=b2 (id-n) _ hq
        rw[show n+(id-n)=id by omega] at this
        rw[this] at hb
        exact .inr ⟨id-n,_,hq,by omega,hb⟩
       ·rw[b3 id (by omega)] at hb;exact .inl ⟨hb,.inr (by omega)⟩
     have hrn:RnTo (x8 n 0 nm) β' β₂:=⟨fun i j b hi hb=>by
      rcases Y4 hi with ⟨e,hl⟩|⟨q,hq,e⟩
      ·rw[e,b1 i hl,<-b4 i hl];exact hb
      ·rw[e,show n+(0+q)=n+q by omega,b2 q i hq];exact hb,fun i j b hi hb=>by
      rcases Y4 hi with ⟨e,hl⟩|⟨q,hq,e⟩
      ·rw[e,d1 i hl,<-d4 i hl];exact hb
      ·rw[e,show n+(0+q)=n+q by omega,d2 q i hq];exact hb⟩
     refine ⟨hle β₂ y (Fg hrn hv'' hyd),⟨fun id b hb=>?_,fun id b hb=>?_⟩,fun id b hb=>?_,fun id v hv=>?_,fun i j b hi hj=>?_,fun i b hb=>?_,hN.os,hN.tape,hN.output,hN.size,fun k hk hne=>?_,fun id b k hb hk=>?_⟩
     ·by_cases h1:id<n
      ·rw[b1 id h1];exact hb
      ·by_cases h2:id<n+nm.length
       ·rw[(hnone id (by omega) h2).1] at hb;cases hb
       ·rw[b3 id (by omega)];exact hb
     ·by_cases h1:id<n
      ·rw[d1 id h1];exact hb
      ·by_cases h2:id<n+nm.length
       ·rw[(hnone id (by omega) h2).2] at hb;cases hb
       ·rw[d3 id (by omega)];exact hb
     ·rcases src id b hb with ⟨h1,_⟩|⟨q,j,hq,e,hb'⟩
      ·exact .inl h1
      ·have hql:q<nm.length:=(List.getElem?_eq_some_iff.1 hq).1
       exact .inr ⟨by omega,by omega,hnew q j b hq hb'⟩
     ·by_cases h1:id<n
      ·rw[d1 id h1] at hv;exact .inl hv
      ·by_cases h2:id<n+nm.length
       ·exact .inr ⟨by omega,h2⟩
       ·rw[d3 id (by omega)] at hv;exact .inl hv
     ·rcases src i b hi with ⟨h1,_⟩|⟨q,j1,hq,e,hb'⟩
      ·rcases src j b hj with ⟨k1,_⟩|⟨q',j2,hq',e',hb''⟩
       ·exact hinj i j b h1 k1
       ·have:=hnew q' j2 b hq' hb'';have:=hlt i b h1;omega
      ·rcases src j b hj with ⟨k1,_⟩|⟨q',j2,hq',e',hb''⟩
       ·have:=hnew q j1 b hq hb';have:=hlt j b k1;omega
       ·have hjj:=hR'.inj j1 j2 b hb' hb''
        subst hjj
        have:=jD c6 hq hq'
        omega
     ·rcases src i b hb with ⟨h1,_⟩|⟨q,j,hq,e,hb'⟩
      ·exact Nat.lt_of_lt_of_le (hlt i b h1) hN.size
      ·exact (hR'.lt j b hb').1
     ·refine hN.keep k hk fun id hid=>⟨(y8 hid).1,fun hw=>?_⟩
      have:=(List.all_eq_true.1 hwck) id hw
      simp only[Bool.or_eq_true] at this
      rcases this with h1|h1
      ·have:=Nat.le_of_ble_eq_true h1;have:=(y8 hid).1;omega
      ·rw[hne id (y8 hid).2] at h1;cases h1
     ·obtain ⟨k',h1,h2⟩:=nS hwr hk
      have hidlt:id<n+nm.length:=Nat.le_of_ble_eq_true ((List.all_eq_true.1 c4) _ (M3 hk))
      have hb':β' (qT n nm id)=some b:=by
       unfold qT
       rcases src id b hb with ⟨q1,q2⟩|⟨q,j,hq,e,hb'⟩
       ·rcases q2 with q2|q2
        ·have:Nat.blt id n=true:=Nat.ble_eq_true_of_le q2
         rw[this];simp only;rw[b4 id q2];exact q1
        ·omega
       ·have:Nat.blt id n=false:=by
         cases hbb:Nat.blt id n with
         |false=>rfl
         |true=>have:=Nat.le_of_ble_eq_true hbb;omega
        rw[this];simp only
        rw[e,show n+q-n=q by omega,List.getD,hq]
        exact hb'
      exact h2 β' β₂ x' b hrn (hR'.blk _ b k' hb' h1)
    ·exact hwr.elim
   ·exact hfin.elim
  ·exact hfin.elim
 refine calls_of_wp hf hb (wp_mono (I4 hm body _ _ h (cut β n) _ x hR) ?_)
 rintro e a' x' ⟨S',β',hk,h1,_,h3,h4⟩
 cases e with
 |normal=>exact fin' S' β' a' x' hk h3 h4
 |ret=>exact fin' S' β' a' x' hk h3 h4
 |exit i=>exact hk.elim
 |goto i=>exact hk.elim
 |panic i=>exact hk.elim
 |outgrown=>exact hk.elim
theorem Dg {P:Program} {f:Nat} (hent:j6 P f) {args:List SV} {vals:List Value} (hu:∀(β:Bt) (ys:List Value),r9 (SV.den β) args ys->ys=vals) {v:SV} {y:Value} (hv:∀β,v.den β y) (n:Nat)
  (h:∀x,Calls P f vals.toArray x fun e x'=>e=.returned y/\n7 x x'):f4 P f args [] n v [] 0:=by
 refine ⟨hent,fun β x ys hd hinj hlt hnone hH _=>?_⟩
 rw[hu β ys hd]
 refine (h x).mono ?_
 rintro e x' ⟨rfl,hg⟩
 exact ⟨y,β,rfl,hv β,Ext.refl β,fun id b hb=>.inl hb,fun id v hv=>.inl hv,hinj,fun i b hb=>Nat.lt_of_lt_of_le (hlt i b hb) hg.size,hg.os,hg.tape,hg.output,hg.size,fun k hk _=>Below.block hg k hk,fun id b k _ hk=>by cases hk⟩
theorem f4.any {P:Program} {f:Nat} {args:List SV} {v:SV} (h:f4 P f args [] 0 v [] 0) (ha:(args.all (vL 0))=true) (hv:vL 0 v=true) (n:Nat):f4 P f args [] n v [] 0:=by
 refine ⟨h.1,fun β x ys hd hinj hlt hnone hH _=>?_⟩
 refine (h.2 ⟨fun _=>none,fun _=>none⟩ x ys (lO ⟨fun i b hi _=>by omega,fun i b hi _=>by omega⟩ ha hd) (fun _ _ _ h=>by cases h) (fun _ _ h=>by cases h) (fun _ _ _=>⟨rfl,rfl⟩) (fun _ _ _ h=>by cases h) (fun _ h=>by cases h)).mono ?_
 rintro e x' ⟨z,β',rfl,hD⟩
 exact ⟨z,β,rfl,sK hv hD.den ⟨fun i b hi _=>by omega,fun i b hi _=>by omega⟩,Ext.refl β,fun id b hb=>.inl hb,fun id v hv=>.inl hv,hinj,fun i b hb=>Nat.lt_of_lt_of_le (hlt i b hb) hD.size,hD.os,hD.tape,hD.output,hD.size,
  fun k hk _=>hD.keep k hk fun id h=>(by cases h),fun id b k _ hk=>by cases hk⟩
theorem u3 {p q:Prop} (h:p=q) (k:q):p:=h▸k
abbrev li (n:Int):Leaf:=.v (.int .i64 n)
abbrev lb (b:Bool):Leaf:=.v (.bool b)
abbrev ag (xs:List Leaf):SV:=.c (.agg xs)
theorem Le.refl (s:SV):Le s s:=fun _ _ h=>h
theorem Le.int {k:IntKind} {a b:Int} (h:a=b):Le (iv k a) (iv k b):=by subst h;exact Le.refl _
theorem Le.bool {a b:Bool} (h:a=b):Le (bv a) (bv b):=by subst h;exact Le.refl _
theorem Le.of {s s':SV} (h:s=s'):Le s s':=by subst h;exact Le.refl _
theorem J7.of {n:Nat} {s s':SV} (h:s=s') (hl:vL n s'=true):J7 n s s':=by
 subst h;exact fun β y hd=>sK hl hd iE
theorem J7.u {n:Nat} (s:SV):J7 n s .u:=fun _ _ _=>trivial
theorem l6.of {n:Nat} {k k':n6} (h:k=k') (hl:L4 n k'=true):l6 n (some k) k':=by
 subst h;exact fun β x b hd=>iU hl hd iE
def eD (S':St) (n:Nat):List (Nat×SV)->Prop
 |[]=>True
 |(t,v)::l=>J7 n (S'.sl t) v/\eD S' n l
def N0 (S':St) (n:Nat):List (Nat×Option n6)->Prop
 |[]=>True
 |(id,some k)::l=>l6 n (S'.blk id) k/\N0 S' n l
 |(_,none)::l=>N0 S' n l
def Jy (S' S:St):Bool:=Nat.ble S.n S'.n&&(Nat.beq S.m S'.m&&(S'.W.all (fun i=>J9 i S.W || Nat.ble S'.q i)&&(Nat.beq S.q S'.q&&Nat.ble S.q S.n)))
theorem zP {S':St} {n:Nat}:∀ {l:List (Nat×SV)} {t:Nat} {v:SV},eD S' n l->lk l t=some v->J7 n (S'.sl t) v
 |[],t,v,_,h=>by cases h
 |(i,w)::l,t,v,hw,h=>by
  by_cases e:i=t
  ·subst e;rw[o5] at h;cases h;exact hw.1
  ·rw[t6 _ _ e] at h;exact zP hw.2 h
theorem mF {S':St} {n:Nat}:∀ {l:List (Nat×Option n6)} {id:Nat} {k:n6},N0 S' n l->lk l id=some (some k)->l6 n (S'.blk id) k
 |[],id,k,_,h=>by cases h
 |(i,some w)::l,id,k,hw,h=>by
  by_cases e:i=id
  ·subst e;rw[o5] at h;cases h;exact hw.1
  ·rw[t6 _ _ e] at h;exact mF hw.2 h
 |(i,none)::l,id,k,hw,h=>by
  by_cases e:i=id
  ·subst e;rw[o5] at h;cases h
  ·rw[t6 _ _ e] at h;exact mF (l:=l) hw h
theorem Qi {W W':List Nat} {q:Nat} (h:(W'.all fun i=>J9 i W || Nat.ble q i)=true):∀i∈W',i<q->i∈W:=fun i hi hl=>by
 have:=(List.all_eq_true.1 h) i hi
 simp only[Bool.or_eq_true] at this
 rcases this with h1|h1
 ·exact nQ.1 h1
 ·have:=Nat.le_of_ble_eq_true h1;omega
theorem Wk.of {S' S:St} (hb:Jy S' S=true) (hE:eD S' S.n S.E) (hH:N0 S' S.n S.H):Wk S' S:=by
 simp only[Jy,Bool.and_eq_true] at hb
 obtain ⟨h1,h2,h3,h4,h5⟩:=hb
 have h4:=Nat.eq_of_beq_eq_true h4
 have h5:=Nat.le_of_ble_eq_true h5
 refine ⟨h4,Qi h3,fun β a x hR=>⟨cut β S.n,⟨fun t=>?_,hR.size.trans (Nat.eq_of_beq_eq_true h2).symm,hR.defs,fun id b k hb hk=>?_,fun i j b hi hj=>hR.inj i j b (y8 hi).2 (y8 hj).2,fun i b hb=>⟨(hR.lt i b (y8 hb).2).1,(y8 hb).1⟩,fun i v hv=>(iD hv).1,h5⟩,
  fun id hid=>⟨uL (by omega),lH (by omega)⟩,fun id b hid hb=>⟨id,hid,(y8 hb).2⟩⟩⟩
 ·have:J7 S.n (S'.sl t) (S.sl t):=by
   unfold St.sl
   cases hq:lk S.E t with
   |none=>exact J7.u _
   |some v=>exact zP hE hq
  exact this β _ (hR.sl t)
 ·have:l6 S.n (S'.blk id) k:=by
   unfold St.blk at hk
   cases hq:lk S.H id with
   |none=>rw[hq] at hk;cases hk
   |some o=>rw[hq] at hk;simp only at hk;subst hk;exact mF hH hq
  cases hq:S'.blk id with
  |none=>rw[hq] at this;exact this.elim
  |some k'=>rw[hq] at this;exact this β x b (hR.blk id b k' (y8 hb).2 hq)
def sg (l:List (Nat×Option Nat)) (i:Nat):Option Nat:=match lk l i with|some o=>o|none=>some i
def lkv:List (Nat×Option Nat)->Nat->Option Nat
 |[],_=>none
 |(k,some v)::l,j=>match Nat.beq v j with|true=>some k|false=>lkv l j
 |(_,none)::l,j=>lkv l j
def chi (l:List (Nat×Option Nat)) (n k j:Nat):Option Nat:=match Nat.blt k n,sg l k with
 |true,some j'=>match Nat.beq j' j with|true=>some k|false=>none
 |_,_=>none
def ri (l:List (Nat×Option Nat)) (n j:Nat):Option Nat:=match lkv l j with|some k=>chi l n k j|none=>chi l n j j
def Tw (l:List (Nat×Option Nat)) (β:Bt) (n:Nat):Bt:=
 ⟨fun i=>if i<n then (match sg l i with|some j=>β j|none=>none) else none,fun i=>if i<n then (match sg l i with|some j=>β.c j|none=>some 0) else none⟩
theorem Qq {l:List (Nat×Option Nat)} {n k j i:Nat} (h:chi l n k j=some i):i<n/\sg l i=some j:=by
 unfold chi at h
 split at h
 ·rename_i j' h1 h2
  split at h
  ·rename_i h3
   cases h
   exact ⟨Nat.le_of_ble_eq_true h1,by rw[h2,Nat.eq_of_beq_eq_true h3]⟩
  ·cases h
 ·cases h
theorem Gj {l:List (Nat×Option Nat)} {n j i:Nat} (h:ri l n j=some i):i<n/\sg l i=some j:=by
 unfold ri at h
 split at h<;>exact Qq h
theorem a5x {l:List (Nat×Option Nat)} {β:Bt} {n i j:Nat} (h:i<n) (hs:sg l i=some j):(Tw l β n) i=β j:=by
 show (if i<n then _ else _)=_
 rw[if_pos h,hs]
theorem a5c {l:List (Nat×Option Nat)} {β:Bt} {n i j:Nat} (h:i<n) (hs:sg l i=some j):(Tw l β n).c i=β.c j:=by
 show (if i<n then _ else _)=_
 rw[if_pos h,hs]
theorem a3h {l:List (Nat×Option Nat)} {β:Bt} {n i:Nat} (h:i<n) (hs:sg l i=none):(Tw l β n).c i=some 0:=by
 show (if i<n then _ else _)=_
 rw[if_pos h,hs]
theorem Am {l:List (Nat×Option Nat)} {β:Bt} {n:Nat}:RnTo (ri l n) β (Tw l β n):=
 ⟨fun i j b h hb=>by obtain ⟨h1,h2⟩:=Gj h;rw[a5x h1 h2];exact hb,fun i j b h hb=>by obtain ⟨h1,h2⟩:=Gj h;rw[a5c h1 h2];exact hb⟩
theorem cH {l:List (Nat×Option Nat)} {β:Bt} {n i b:Nat} (h:(Tw l β n) i=some b):∃j,i<n/\sg l i=some j/\β j=some b:=by
 have h:(if i<n then (match sg l i with|some j=>β j|none=>none) else none)=some b:=h
 split at h
 ·rename_i hi
  cases hs:sg l i with
  |none=>rw[hs] at h;cases h
  |some j=>rw[hs] at h;exact ⟨j,hi,rfl,h⟩
 ·cases h
def Qa (l:List (Nat×Option Nat)) (q n:Nat):Bool:=(List.range n).all fun i=>match sg l i with
 |some j=>(match ri l n j with|some k=>Nat.beq k i|none=>false)&&(match Nat.blt i q with|true=>Nat.beq j i|false=>Nat.ble q j)
 |none=>Nat.ble q i
theorem aO {l:List (Nat×Option Nat)} {q n i j:Nat} (h:Qa l q n=true) (hi:i<n) (hs:sg l i=some j):ri l n j=some i/\(i<q->j=i)/\(q<=i->q<=j):=by
 have:=(List.all_eq_true.1 h) i (by simpa using hi)
 rw[hs] at this
 simp only[Bool.and_eq_true] at this
 obtain ⟨h1,h2⟩:=this
 refine ⟨?_,fun hq=>?_,fun hq=>?_⟩
 ·cases hr:ri l n j with
  |none=>rw[hr] at h1;cases h1
  |some k=>rw[hr] at h1;rw[Nat.eq_of_beq_eq_true h1]
 ·have:Nat.blt i q=true:=Nat.ble_eq_true_of_le hq
  rw[this] at h2;exact Nat.eq_of_beq_eq_true h2
 ·have:Nat.blt i q=false:=by
   cases hb:Nat.blt i q with
   |false=>rfl
   |true=>have:=Nat.le_of_ble_eq_true hb;omega
  rw[this] at h2;exact Nat.le_of_ble_eq_true h2
theorem Bs {l:List (Nat×Option Nat)} {q n i:Nat} (h:Qa l q n=true) (hi:i<n) (hs:sg l i=none):q<=i:=by
 have:=(List.all_eq_true.1 h) i (by simpa using hi)
 rw[hs] at this
 exact Nat.le_of_ble_eq_true this
def H8 (l:List (Nat×Option Nat)) (n:Nat) (s s':SV):Prop:=∀(β:Bt) (y:Value),s.den β y->s'.den (Tw l β n) y
def v5 (l:List (Nat×Option Nat)) (n:Nat):Option n6->n6->Prop
 |some k,k'=>∀(β:Bt) (x:World) (b:Nat),y9 β x b k->y9 (Tw l β n) x b k'
 |none,_=>False
theorem H8.u {l:List (Nat×Option Nat)} {n:Nat} (s:SV):H8 l n s .u:=fun _ _ _=>trivial
theorem H8.of {l:List (Nat×Option Nat)} {n:Nat} {s s':SV} (h:s.rn (ri l n)=some s'):H8 l n s s':=fun β y hd=>Fg Am h hd
theorem v5.of {l:List (Nat×Option Nat)} {n:Nat} {k k':n6} (h:k.rn (ri l n)=some k'):v5 l n (some k) k':=fun β x b hd=>Bf Am h hd
def gT (l:List (Nat×Option Nat)) (n:Nat) (x x':Leaf):Prop:=∀(β:Bt) (y:Value),x.den β y->x'.den (Tw l β n) y
def aY (l:List (Nat×Option Nat)) (n:Nat) (xs xs':List Leaf):Prop:=∀(β:Bt) (ys:List Value),r9 (Leaf.den β) xs ys->r9 (Leaf.den (Tw l β n)) xs' ys
theorem gT.nil {l:List (Nat×Option Nat)} {n i:Nat} (hi:i<n) (h:sg l i=none):gT l n (.v (.slice none 0 0)) (.o i 0):=fun β y hd=>.inl ⟨rfl,a3h hi h,hd.1⟩
theorem aY.nil {l:List (Nat×Option Nat)} {n:Nat}:aY l n [] []:=fun β ys hd=>by
 cases ys with
 |nil=>trivial
 |cons y ys=>exact hd.elim
theorem aY.cons {l:List (Nat×Option Nat)} {n:Nat} {x x':Leaf} {xs xs':List Leaf} (h:gT l n x x') (k:aY l n xs xs'):aY l n (x::xs) (x'::xs'):=fun β ys hd=>by
 cases ys with
 |nil=>exact hd
 |cons y ys=>exact ⟨h β y hd.1,k β ys hd.2⟩
theorem aY.of {l:List (Nat×Option Nat)} {n:Nat} {xs xs':List Leaf} (h:W5 (ri l n) xs=some xs'):aY l n xs xs':=fun β ys hd=>cS Am h hd
theorem v5.ls {l:List (Nat×Option Nat)} {n t:Nat} {xs xs':List Leaf} (h:aY l n xs xs'):v5 l n (some ⟨xs,.t t⟩) ⟨xs',.t t⟩:=fun β x b hd=>by
 rcases hd with (⟨h1,_⟩|⟨h1,_⟩)|⟨ys,zs,h1,h2,_⟩
 ·cases h1
 ·cases h1
 ·exact .inr ⟨ys,zs,h1,h β ys h2,trivial⟩
def W4 (l:List (Nat×Option Nat)) (S':St) (n:Nat):List (Nat×SV)->Prop
 |[]=>True
 |(t,v)::r=>H8 l n (S'.sl t) v/\W4 l S' n r
def G0 (l:List (Nat×Option Nat)) (S':St) (n:Nat):List (Nat×Option n6)->Prop
 |[]=>True
 |(id,some k)::r=>(match sg l id with|some j=>v5 l n (S'.blk j) k|none=>True)/\G0 l S' n r
 |(_,none)::r=>G0 l S' n r
def uS (l:List (Nat×Option Nat)) (S' S:St):Bool:=Nat.beq S.m S'.m&&(S'.W.all (fun i=>J9 i S.W || Nat.ble S'.q i)&&(Nat.beq S.q S'.q&&(Nat.ble S.q S.n&&Qa l S.q S.n)))
theorem rM {l:List (Nat×Option Nat)} {S':St} {n:Nat}:∀ {r:List (Nat×SV)} {t:Nat} {v:SV},W4 l S' n r->lk r t=some v->H8 l n (S'.sl t) v
 |[],t,v,_,h=>by cases h
 |(i,w)::r,t,v,hw,h=>by
  by_cases e:i=t
  ·subst e;rw[o5] at h;cases h;exact hw.1
  ·rw[t6 _ _ e] at h;exact rM hw.2 h
theorem jI {l:List (Nat×Option Nat)} {S':St} {n:Nat}:∀ {r:List (Nat×Option n6)} {id:Nat} {k:n6},G0 l S' n r->lk r id=some (some k)->∀j,sg l id=some j->v5 l n (S'.blk j) k
 |[],id,k,_,h=>by cases h
 |(i,some w)::r,id,k,hw,h=>by
  by_cases e:i=id
  ·subst e;rw[o5] at h;cases h
   intro j hj
   have:=hw.1
   rw[hj] at this
   exact this
  ·rw[t6 _ _ e] at h;exact jI hw.2 h
 |(i,none)::r,id,k,hw,h=>by
  by_cases e:i=id
  ·subst e;rw[o5] at h;cases h
  ·rw[t6 _ _ e] at h;exact jI (r:=r) hw h
theorem Wk.ofR (l:List (Nat×Option Nat)) {S' S:St} (hb:uS l S' S=true) (hE:W4 l S' S.n S.E) (hH:G0 l S' S.n S.H):Wk S' S:=by
 simp only[uS,Bool.and_eq_true] at hb
 obtain ⟨h2,h3,h4,h5,h6⟩:=hb
 have h4:=Nat.eq_of_beq_eq_true h4
 have h5:=Nat.le_of_ble_eq_true h5
 refine ⟨h4,Qi h3,fun β a x hR=>⟨Tw l β S.n,⟨fun t=>?_,hR.size.trans (Nat.eq_of_beq_eq_true h2).symm,hR.defs,fun id b k hb hk=>?_,fun i j b hi hj=>?_,fun i b hb=>?_,fun i v hv=>?_,h5⟩,fun id hid=>?_,fun id b hid hb=>?_⟩⟩
 ·have:H8 l S.n (S'.sl t) (S.sl t):=by
   unfold St.sl
   cases hq:lk S.E t with
   |none=>exact H8.u _
   |some v=>exact rM hE hq
  exact this β _ (hR.sl t)
 ·obtain ⟨j,h7,h8,h9⟩:=cH hb
  have:v5 l S.n (S'.blk j) k:=by
   unfold St.blk at hk
   cases hq:lk S.H id with
   |none=>rw[hq] at hk;cases hk
   |some o=>rw[hq] at hk;simp only at hk;subst hk;exact jI hH hq j h8
  cases hq:S'.blk j with
  |none=>rw[hq] at this;exact this.elim
  |some k'=>rw[hq] at this;exact this β x b (hR.blk j b k' h9 hq)
 ·obtain ⟨i',h7,h8,h9⟩:=cH hi
  obtain ⟨j',k7,k8,k9⟩:=cH hj
  have e:=hR.inj i' j' b h9 k9
  subst e
  have e1:=(aO h6 h7 h8).1
  rw[(aO h6 k7 k8).1] at e1
  cases e1;rfl
 ·obtain ⟨i',h7,h8,h9⟩:=cH hb
  exact ⟨(hR.lt i' b h9).1,h7⟩
 ·have hv:(if i<S.n then (match sg l i with|some j=>β.c j|none=>some 0) else none)=some v:=hv
  split at hv
  ·assumption
  ·cases hv
 ·have hlt:id<S.n:=by omega
  cases hs:sg l id with
  |none=>have:=Bs h6 hlt hs;omega
  |some j=>
   have:=(aO h6 hlt hs).2.1 (by omega)
   subst this
   exact ⟨a5x hlt hs,a5c hlt hs⟩
 ·obtain ⟨i',h7,h8,h9⟩:=cH hb
  exact ⟨i',by have:=(aO h6 h7 h8).2.2 (by omega);omega,h9⟩
end Ab
namespace Ab
def A2 (r:Nat):Code->Option Code
 |.loop c=>match Nat.beq (rid c) r with|true=>some c|false=>A2 r c
 |.seq a b=>match A2 r a with|some c=>some c|none=>A2 r b
 |.cond _ a b=>match A2 r a with|some c=>some c|none=>A2 r b
 |.block _ a=>A2 r a
 |_=>none
structure wkK (n:Nat) (K:Exit->St->Prop) (e:Exit) (S':St):Prop where
 h:∃S,Wk S' S/\K e S
structure RoundTo (P:Program) (c:Code) (n:Nat) (K:Exit->St->Prop) (S':St):Prop where
 h:∃S,Wk S' S/\z4 P c S K
def rK (P:Program) (c:Code) (n:Nat) (K:Exit->St->Prop):Exit->St->Prop:=fun e S'=>match e with | .normal=>RoundTo P c n K S'|e=>K e S'
section
variable {P:Program}
theorem z4.round' {c:Code} {S:St} {K:Exit->St->Prop} (h:WP P c S (rK P c S.n K)):z4 P c S K:=
 z4.round (h.mono fun e S' hk=>by cases e<;>first|exact hk.h|exact hk)
theorem c0z {cx:Cz} (hm:P.follows .mixedOrders=true) {c:Code} {S:St} {K:Exit->St->Prop} (h:ev P cx c S (rK P c S.n K)):z4 P c S K:=z4.round' (I4 hm c S _ h)
def Bd (ks hs:List Nat) (S:St):St:=⟨ks.map fun t=>(t,S.sl t),hs.map fun i=>(i,S.blk i),S.n,S.m,S.W,S.q⟩
theorem kZ {α:Type} (f:Nat->α) (t:Nat):∀ks:List Nat,lk (ks.map fun t=>(t,f t)) t=some (f t)\/lk (ks.map fun t=>(t,f t)) t=none
 |[]=>.inr rfl
 |k::ks=>by
  by_cases e:k=t
  ·subst e;exact .inl (o5 _ _ _)
  ·rw[List.map_cons,t6 _ _ e];exact kZ f t ks
theorem Rep.trim {β:Bt} {S:St} {a:Act} {x:World} (ks hs:List Nat) (h:Rep β S a x):Rep β (Bd ks hs S) a x:=by
 refine ⟨fun t=>?_,h.size,h.defs,fun id b k hb hk=>?_,h.inj,h.lt,h.ltc,h.q⟩
 ·unfold St.sl
  rcases kZ (fun t=>S.sl t) t ks with e|e
  ·rw[show lk (Ab.Bd ks hs S).E t=_ from e];exact h.sl t
  ·rw[show lk (Ab.Bd ks hs S).E t=_ from e];trivial
 ·unfold St.blk at hk
  rcases kZ (fun i=>S.blk i) id hs with e|e
  ·rw[show lk (Ab.Bd ks hs S).H id=_ from e] at hk;exact h.blk id b k hb hk
  ·rw[show lk (Ab.Bd ks hs S).H id=_ from e] at hk;cases hk
theorem Wk.trim {ks hs:List Nat} {S' S:St} (h:Wk (Bd ks hs S') S):Wk S' S:=⟨h.q,h.W,fun β a x hR=>h.rep β a x (hR.trim ks hs)⟩
theorem m5 {P:Program} (ks hs:List Nat) {cx:Cz} (hm:P.follows .mixedOrders=true) {c:Code} {S:St} {n:Nat} {K:Exit->St->Prop} (h:ev P cx c S (fun e S'=>rK P c S.n (wkK n K) e (Bd ks hs S'))):z4 P c S (wkK n K):=
 z4.round' ((I4 hm c S _ h).mono fun e S' hk=>by
  cases e<;>first|exact ⟨hk.h.elim fun S'' q=>⟨S'',q.1.trim,q.2⟩⟩|exact hk)
def yP (ks:List Nat) (S:St):St:=⟨ks.map fun t=>(t,S.sl t),S.H,S.n,S.m,S.W,S.q⟩
theorem Rep.trimE {β:Bt} {S:St} {a:Act} {x:World} (ks:List Nat) (h:Rep β S a x):Rep β (yP ks S) a x:=by
 refine ⟨fun t=>?_,h.size,h.defs,h.blk,h.inj,h.lt,h.ltc,h.q⟩
 unfold St.sl
 rcases kZ (fun t=>S.sl t) t ks with e|e
 ·rw[show lk (Ab.yP ks S).E t=_ from e];exact h.sl t
 ·rw[show lk (Ab.yP ks S).E t=_ from e];trivial
theorem Wk.trimE {ks:List Nat} {S' S:St} (h:Wk (yP ks S') S):Wk S' S:=⟨h.q,h.W,fun β a x hR=>h.rep β a x (hR.trimE ks)⟩
theorem cT {P:Program} (ks:List Nat) {cx:Cz} (hm:P.follows .mixedOrders=true) {c:Code} {S:St} {n:Nat} {K:Exit->St->Prop} (h:ev P cx c S (fun e S'=>rK P c S.n (wkK n K) e (yP ks S'))):z4 P c S (wkK n K):=
 z4.round' ((I4 hm c S _ h).mono fun e S' hk=>by
  cases e<;>first|exact ⟨hk.h.elim fun S'' q=>⟨S'',q.1.trimE,q.2⟩⟩|exact hk)
theorem RoundTo.to {c:Code} {n:Nat} {K:Exit->St->Prop} {S':St} (S:St) (hn:n<=S.n) (hb:Jy S' S=true) (hE:eD S' S.n S.E) (hH:N0 S' S.n S.H) (h:z4 P c S K):RoundTo P c n K S':=⟨⟨S,Wk.of hb hE hH,h⟩⟩
theorem wkK.to {n:Nat} {K:Exit->St->Prop} {e:Exit} {S':St} (S:St) (hn:n<=S.n) (hb:Jy S' S=true) (hE:eD S' S.n S.E) (hH:N0 S' S.n S.H) (h:K e S):wkK n K e S':=⟨⟨S,Wk.of hb hE hH,h⟩⟩
theorem RoundTo.re {c:Code} {n:Nat} {K:Exit->St->Prop} {S':St} (l:List (Nat×Option Nat)) (S:St) (hb:uS l S' S=true) (hE:W4 l S' S.n S.E) (hH:G0 l S' S.n S.H) (h:z4 P c S K):RoundTo P c n K S':=⟨⟨S,Wk.ofR l hb hE hH,h⟩⟩
theorem m9 {l:List (Nat×Option Nat)} {S':St} {n t:Nat} {v:SV} {r:List (Nat×SV)} (h:H8 l n (S'.sl t) v) (k:W4 l S' n r):W4 l S' n ((t,v)::r):=⟨h,k⟩
theorem f5 {l:List (Nat×Option Nat)} {S':St} {n id j:Nat} {b:n6} {r:List (Nat×Option n6)} (hs:sg l id=some j) (h:v5 l n (S'.blk j) b) (k:G0 l S' n r):G0 l S' n ((id,some b)::r):=⟨by rw[hs];exact h,k⟩
theorem b6l {l:List (Nat×Option Nat)} {S':St} {n id:Nat} {b:n6} {r:List (Nat×Option n6)} (hs:sg l id=none) (k:G0 l S' n r):G0 l S' n ((id,some b)::r):=⟨by rw[hs];trivial,k⟩
theorem O9.weak {S:St} {β:Bt} {x:World} {K:Exit->St->Prop}:∀e a w,O9 S β x (wkK S.n K) e a w->O9 S β x K e a w:=by
 rintro e a w ⟨S',β',⟨⟨S'',hw,hk⟩⟩,h1,h2,h3,h4⟩
 obtain ⟨β₁,r1,r2,r3⟩:=hw.rep β' a w h4
 have hW:=hw.W
 rw[h1] at r2 r3 hW
 exact ⟨S'',β₁,hk,hw.q.trans h1,fun i hi hl=>hW i (h2 i hi hl) hl,h3.wk hW r2 r3,r1⟩
theorem z4.conseq {c:Code} {S:St} {K:Exit->St->Prop} (h:z4 P c S (wkK S.n K)):z4 P c S K:=fun β a x hR=>V4 (h β a x hR) O9.weak
theorem z4.start {c:Code} {S:St} {K:Exit->St->Prop} (S₁:St) (hn:S₁.n=S.n) (hb:Jy S S₁=true) (hE:eD S S₁.n S₁.E) (hH:N0 S S₁.n S₁.H) (h:z4 P c S₁ (wkK S₁.n K)):z4 P c S K:=
 z4.weak (Wk.of hb hE hH) h.conseq
theorem l3.re {c:Code} {S:St} {T:(Exit->St->Prop)->Prop} (l:List (Nat×Option Nat)) (S₁:St) (hb:uS l S S₁=true) (hE:W4 l S S₁.n S₁.E) (hH:G0 l S S₁.n S₁.H) (h:∀K,T K->z4 P c S₁ (wkK S₁.n K)):l3 P c S T:=
 fun K hT=>(z4.weak (Wk.ofR l hb hE hH) (h K hT).conseq).wp
theorem l3.mk {c:Code} {S:St} {T:(Exit->St->Prop)->Prop} (S₁:St) (hn:S₁.n=S.n) (hb:Jy S S₁=true) (hE:eD S S₁.n S₁.E) (hH:N0 S S₁.n S₁.H) (h:∀K,T K->z4 P c S₁ (wkK S₁.n K)):l3 P c S T:=
 fun K hT=>(z4.start S₁ hn hb hE hH (h K hT)).wp
theorem q7 {S':St} {n t:Nat} {v:SV} {l:List (Nat×SV)} (h:J7 n (S'.sl t) v) (k:eD S' n l):eD S' n ((t,v)::l):=⟨h,k⟩
theorem d5 {S':St} {n id:Nat} {b:n6} {l:List (Nat×Option n6)} (h:l6 n (S'.blk id) b) (k:N0 S' n l):N0 S' n ((id,some b)::l):=⟨h,k⟩
theorem J7.sl_int {S:St} {n t:Nat} {k:IntKind} {x y:Int} (h:S.sl t=iv k y) (e:y=x):J7 n (S.sl t) (iv k x):=by
 rw[h,e];exact J7.of rfl rfl
theorem J7.sl {S:St} {n t:Nat} {v:SV} (h:S.sl t=v) (hl:vL n v=true):J7 n (S.sl t) v:=J7.of h hl
theorem l6.blk {S:St} {n id:Nat} {k k':n6} (h:S.blk id=some k) (e:k=k') (hl:L4 n k'=true):l6 n (S.blk id) k':=by
 rw[h];exact l6.of e hl
end
def Leaf.pl:Leaf->Option Value
 |.v x=>match K1 x with|true=>some x|false=>none
 |_=>none
def nB:List Leaf->Option (List Value)
 |[]=>some []
 |x::l=>match x.pl,nB l with|some y,some r=>some (y::r)|_,_=>none
def Cp.pl:Cp->Option Value
 |.l x=>x.pl
 |.agg xs=>match nB xs with|some ys=>some (.agg ys.toArray)|none=>none
def Io:List Cp->Option (List Value)
 |[]=>some []
 |x::l=>match x.pl,Io l with|some y,some r=>some (y::r)|_,_=>none
def SV.pl:SV->Option Value
 |.c x=>x.pl
 |.tup xs=>match Io xs with|some ys=>some (.tuple ys.toArray)|none=>none
 |_=>none
def Ra:List SV->Option (List Value)
 |[]=>some []
 |x::l=>match x.pl,Ra l with|some y,some r=>some (y::r)|_,_=>none
theorem Leaf.pl_iff {x:Leaf} {y:Value} (h:x.pl=some y) (β:Bt) (z:Value):x.den β z↔z=y:=by
 cases x with
 |v a=>
  simp only[Leaf.pl] at h
  split at h
  ·rename_i hl;cases h;exact ⟨fun k=>k.1,fun k=>⟨k,hl⟩⟩
  ·cases h
 |p _ _=>cases h
 |f _ _=>cases h
 |s _ _ _=>cases h
 |o _ _=>cases h
 |u=>cases h
theorem I1:∀ {l:List Leaf} {ys:List Value},nB l=some ys->∀(β:Bt) (zs:List Value),r9 (Leaf.den β) l zs↔zs=ys
 |[],ys,h,β,zs=>by
  simp only[nB,Option.some.injEq] at h;subst h
  cases zs<;>simp[r9]
 |x::l,ys,h,β,zs=>by
  unfold nB at h
  split at h
  ·rename_i y r h1 h2
   cases h
   cases zs with
   |nil=>simp[r9]
   |cons z zs=>simp only[r9,Leaf.pl_iff h1 β z,I1 h2 β zs,List.cons.injEq]
  ·cases h
theorem Cp.pl_iff {x:Cp} {y:Value} (h:x.pl=some y) (β:Bt) (z:Value):x.den β z↔z=y:=by
 cases x with
 |l a=>exact Leaf.pl_iff (x:=a) h β z
 |agg xs=>
  simp only[Cp.pl] at h
  split at h
  ·rename_i ys hy
   cases h
   constructor
   ·rintro ⟨zs,rfl,hd⟩;rw[(I1 hy β zs).1 hd]
   ·rintro rfl;exact ⟨ys,rfl,(I1 hy β ys).2 rfl⟩
  ·cases h
theorem oU:∀ {l:List Cp} {ys:List Value},Io l=some ys->∀(β:Bt) (zs:List Value),r9 (Cp.den β) l zs↔zs=ys
 |[],ys,h,β,zs=>by
  simp only[Io,Option.some.injEq] at h;subst h
  cases zs<;>simp[r9]
 |x::l,ys,h,β,zs=>by
  unfold Io at h
  split at h
  ·rename_i y r h1 h2
   cases h
   cases zs with
   |nil=>simp[r9]
   |cons z zs=>simp only[r9,Cp.pl_iff h1 β z,oU h2 β zs,List.cons.injEq]
  ·cases h
theorem SV.pl_iff {x:SV} {y:Value} (h:x.pl=some y) (β:Bt) (z:Value):x.den β z↔z=y:=by
 cases x with
 |u=>cases h
 |c a=>exact Cp.pl_iff (x:=a) h β z
 |tup xs=>
  simp only[SV.pl] at h
  split at h
  ·rename_i ys hy
   cases h
   constructor
   ·rintro ⟨zs,rfl,hd⟩;rw[(oU hy β zs).1 hd]
   ·rintro rfl;exact ⟨ys,rfl,(oU hy β ys).2 rfl⟩
  ·cases h
 |g _ _=>cases h
theorem U9:∀ {l:List SV} {ys:List Value},Ra l=some ys->∀(β:Bt) (zs:List Value),r9 (SV.den β) l zs↔zs=ys
 |[],ys,h,β,zs=>by
  simp only[Ra,Option.some.injEq] at h;subst h
  cases zs<;>simp[r9]
 |x::l,ys,h,β,zs=>by
  unfold Ra at h
  split at h
  ·rename_i y r h1 h2
   cases h
   cases zs with
   |nil=>simp[r9]
   |cons z zs=>simp only[r9,SV.pl_iff h1 β z,U9 h2 β zs,List.cons.injEq]
  ·cases h
theorem B9 {P:Program} {f:Nat} (hent:j6 P f) {args:List SV} {vals:List Value} {v:SV} {y:Value} (ha:Ra args=some vals) (hv:v.pl=some y) (n:Nat)
  (h:∀x,Calls P f vals.toArray x fun e x'=>e=.returned y/\n7 x x'):f4 P f args [] n v [] 0:=
 Dg hent (fun β ys hd=>(U9 ha β ys).1 hd) (fun β=>(SV.pl_iff hv β y).2 rfl) n h
section
variable {S' S:St} {n t i j:Nat} {l:List (Nat×Option Nat)}
theorem J7.k {v:SV} (h:(bif vL n v then S.sl t else .u)=v):J7 n (S.sl t) v:=by
 cases e:vL n v with
 |true=>rw[e] at h;exact J7.of h e
 |false=>rw[e] at h;rw[<-h];exact J7.u _
theorem l6.k {k:n6} (h:(bif L4 n k then S.blk i else none)=some k):l6 n (S.blk i) k:=by
 cases e:L4 n k with
 |true=>rw[e] at h;exact l6.blk h rfl e
 |false=>rw[e] at h;cases h
theorem H8.k {v:SV} (h:((S.sl t).rn (ri l n)).getD .u=v):H8 l n (S.sl t) v:=by
 cases e:(S.sl t).rn (ri l n) with
 |none=>rw[e] at h;rw[<-h];exact H8.u _
 |some s=>rw[e] at h;rw[<-h];exact H8.of e
theorem v5.k {k:n6} (h:((S.blk j).bind fun b=>b.rn (ri l n))=some k):v5 l n (S.blk j) k:=by
 cases e:S.blk j with
 |none=>rw[e] at h;cases h
 |some b=>rw[e] at h;exact v5.of h
def Jj (S':St) (n:Nat):List (Nat×SV)->List (Nat×SV)
 |[]=>[]
 |(t,v)::l=>(t,bif vL n v then S'.sl t else .u)::Jj S' n l
def b1z (S':St) (n:Nat):List (Nat×Option n6)->List (Nat×Option n6)
 |[]=>[]
 |(i,some k)::l=>(i,bif L4 n k then S'.blk i else none)::b1z S' n l
 |(i,none)::l=>(i,none)::b1z S' n l
def wT (l:List (Nat×Option Nat)) (S':St) (n:Nat):List (Nat×SV)->List (Nat×SV)
 |[]=>[]
 |(t,_)::r=>(t,((S'.sl t).rn (ri l n)).getD .u)::wT l S' n r
def Nq (l:List (Nat×Option Nat)) (S':St) (n:Nat):List (Nat×Option n6)->List (Nat×Option n6)
 |[]=>[]
 |(i,some k)::r=>(i,match sg l i with|some j=>(S'.blk j).bind fun b=>b.rn (ri l n)|none=>some k)::Nq l S' n r
 |(i,none)::r=>(i,none)::Nq l S' n r
theorem eD.k:∀ {r:List (Nat×SV)},Jj S' n r=r->eD S' n r
 |[],_=>trivial
 |(_,_)::_,h=>⟨J7.k (Prod.mk.inj (List.cons.inj h).1).2,eD.k (List.cons.inj h).2⟩
theorem N0.k:∀ {r:List (Nat×Option n6)},b1z S' n r=r->N0 S' n r
 |[],_=>trivial
 |(_,some _)::_,h=>⟨l6.k (Prod.mk.inj (List.cons.inj h).1).2,N0.k (List.cons.inj h).2⟩
 |(_,none)::r,h=>show N0 S' n r from N0.k (List.cons.inj h).2
theorem W4.k:∀ {r:List (Nat×SV)},wT l S' n r=r->W4 l S' n r
 |[],_=>trivial
 |(_,_)::_,h=>⟨H8.k (Prod.mk.inj (List.cons.inj h).1).2,W4.k (List.cons.inj h).2⟩
theorem G0.k:∀ {r:List (Nat×Option n6)},Nq l S' n r=r->G0 l S' n r
 |[],_=>trivial
 |(i,some k)::r,h=>by
  refine ⟨?_,G0.k (List.cons.inj h).2⟩
  have e:(match sg l i with|some j=>(S'.blk j).bind fun b=>b.rn (ri l n)|none=>some k)=some k:=(Prod.mk.inj (List.cons.inj h).1).2
  cases q:sg l i with
  |none=>trivial
  |some j=>rw[q] at e;exact v5.k e
 |(_,none)::r,h=>show G0 l S' n r from G0.k (List.cons.inj h).2
end
def pC (fn:Func):Bool:=fn.body.isSome && !(fn.name == "runtime.NumGoroutine")
theorem Js {P:Program} {f:Nat} {fn:Func} (hf:P.funcs[f]? = some fn) (h:pC fn=true):j6 P f:=by
 intro args w
 unfold pC at h
 simp only[Bool.and_eq_true,Bool.not_eq_true'] at h
 obtain ⟨c,hc⟩:=Option.isSome_iff_exists.1 h.1
 unfold callFunc
 go_simp
 exact fun e=>by have q:=h.2;rw[e] at q;cases q
theorem ck {P:Program} (hm:P.follows .mixedOrders=true) (cx:Cz) (nm:List Nat) {f:Nat} {fn:Func} (hf:P.funcs[f]? = some fn)
  {args:List SV} {H:List (Nat×n6)} {n:Nat} {v:SV} {wr:List (Nat×n6)} (hck:(Q8 args H n fn.ntmps wr nm&&pC fn)=true) (h:ev P cx (fn.body.getD .skip) (Jz args H n fn.ntmps) (Ch P fn.results.toList n v wr nm)):f4 P f args H n v wr nm.length:=by
 rw[Bool.and_eq_true] at hck
 refine lY hm hf ?_ (Js hf hck.2) hck.1 h
 have hb:=hck.2
 unfold pC at hb
 cases e:fn.body with
 |none=>rw[e] at hb;cases hb
 |some c=>rfl
theorem ck0 {P:Program} (hm:P.follows .mixedOrders=true) (cx:Cz) {f:Nat} {fn:Func} (hf:P.funcs[f]? = some fn)
  {args:List SV} {v:SV} (n:Nat) (hck:((Q8 args [] 0 fn.ntmps [] []&&pC fn)&&(args.all (vL 0)&&vL 0 v))=true) (h:ev P cx (fn.body.getD .skip) (Jz args [] 0 fn.ntmps) (Ch P fn.results.toList 0 v [] [])):f4 P f args [] n v [] 0:=by
 simp only[Bool.and_eq_true] at hck
 exact f4.any (ck hm cx [] hf (by rw[hck.1.1,hck.1.2];rfl) h) hck.2.1 hck.2.2 n
section
variable {P:Program} {c:Code} {n N k2 m q:Nat} {K:Exit->St->Prop} {E:List (Nat×SV)} {H:List (Nat×Option n6)} {W:List Nat} {S':St}
theorem bO {S' S:St} (h:(Jy S' S&&Nat.ble n S.n,Jj S' S.n S.E)=(true,S.E)):n<=S.n/\Jy S' S=true/\eD S' S.n S.E:=by
 have e:=(Prod.mk.inj h).1
 simp only[Bool.and_eq_true] at e
 exact ⟨Nat.le_of_ble_eq_true e.2,e.1,eD.k (Prod.mk.inj h).2⟩
theorem RoundTo.tk (N:Nat) (S:St) (hk:(Jy ⟨E,H,N,m,W,q⟩ S&&Nat.ble n S.n,Jj ⟨E,H,N,m,W,q⟩ S.n S.E)=(true,S.E)) (hH:N0 ⟨E,H,N,m,W,q⟩ S.n S.H) (h:z4 P c S K):RoundTo P c n K ⟨E,H,N,m,W,q⟩:=
 RoundTo.to S (bO hk).1 (bO hk).2.1 (bO hk).2.2 hH h
theorem RoundTo.rk (N:Nat) (l:List (Nat×Option Nat)) (S:St) (hk:(uS l ⟨E,H,N,m,W,q⟩ S,wT l ⟨E,H,N,m,W,q⟩ S.n S.E)=(true,S.E)) (hH:G0 l ⟨E,H,N,m,W,q⟩ S.n S.H) (h:z4 P c S K):RoundTo P c n K ⟨E,H,N,m,W,q⟩:=
 RoundTo.re l S (Prod.mk.inj hk).1 (W4.k (Prod.mk.inj hk).2) hH h
theorem RoundTo.rkH (N k2:Nat) {h1:Nat×Option n6} {b2:Option n6} (l:List (Nat×Option Nat)) (S:St) (hk:(uS l ⟨E,h1::(k2,b2)::H,N,m,W,q⟩ S,wT l ⟨E,h1::(k2,b2)::H,N,m,W,q⟩ S.n S.E)=(true,S.E)) (hH:G0 l ⟨E,h1::(k2,b2)::H,N,m,W,q⟩ S.n S.H) (h:z4 P c S K):RoundTo P c n K ⟨E,h1::(k2,b2)::H,N,m,W,q⟩:=
 RoundTo.re l S (Prod.mk.inj hk).1 (W4.k (Prod.mk.inj hk).2) hH h
theorem wkK.tk {e:Exit} (S:St) (hk:(Jy S' S&&Nat.ble n S.n,Jj S' S.n S.E)=(true,S.E)) (hH:N0 S' S.n S.H) (h:K e S):wkK n K e S':=
 wkK.to S (bO hk).1 (bO hk).2.1 (bO hk).2.2 hH h
theorem l3.tk {S:St} {T:(Exit->St->Prop)->Prop} (S₁:St) (hk:((Jy S S₁&&Nat.ble 0 S₁.n,Jj S S₁.n S₁.E),S₁.n)=((true,S₁.E),S.n)) (hH:N0 S S₁.n S₁.H) (h:∀K,T K->z4 P c S₁ (wkK S₁.n K)):l3 P c S T:=
 l3.mk S₁ (Prod.mk.inj hk).2 (bO (Prod.mk.inj hk).1).2.1 (bO (Prod.mk.inj hk).1).2.2 hH h
theorem l3.rk {S:St} {T:(Exit->St->Prop)->Prop} (l:List (Nat×Option Nat)) (S₁:St) (hk:(uS l S S₁,wT l S S₁.n S₁.E)=(true,S₁.E)) (hH:G0 l S S₁.n S₁.H) (h:∀K,T K->z4 P c S₁ (wkK S₁.n K)):l3 P c S T:=
 l3.re l S₁ (Prod.mk.inj hk).1 (W4.k (Prod.mk.inj hk).2) hH h
theorem HB.yes {p A B:Prop} [Decidable p] (h:p) (a:A):HB (decide p) A B:=by rw[decide_eq_true h];exact a
theorem HB.no {p A B:Prop} [Decidable p] (h:¬p) (b:B):HB (decide p) A B:=by rw[decide_eq_false h];exact b
end
theorem E3 {P:Program} (cx:Cz) (nm:List Nat) {f:Nat} {fn:Func} (hf:P.funcs[f]? = some fn)
  {args:List SV} {H:List (Nat×n6)} {n:Nat} {v:SV} {wr:List (Nat×n6)} {q:Prop} (hck:(Q8 args H n fn.ntmps wr nm&&(pC fn&&P.follows .mixedOrders))=true) (h:ev P cx (fn.body.getD .skip) (Jz args H n fn.ntmps) (Ch P fn.results.toList n v wr nm)=q) (k:q):f4 P f args H n v wr nm.length:=by
 simp only[Bool.and_eq_true] at hck
 exact ck hck.2.2 cx nm hf (by rw[hck.1,hck.2.1];rfl) (h▸k)
theorem v6 {P:Program} (cx:Cz) {f:Nat} {fn:Func} (hf:P.funcs[f]? = some fn)
  {args:List SV} {v:SV} (n:Nat) {q:Prop} (hck:((Q8 args [] 0 fn.ntmps [] []&&pC fn)&&(args.all (vL 0)&&(vL 0 v&&P.follows .mixedOrders)))=true) (h:ev P cx (fn.body.getD .skip) (Jz args [] 0 fn.ntmps) (Ch P fn.results.toList 0 v [] [])=q) (k:q):f4 P f args [] n v [] 0:=by
 simp only[Bool.and_eq_true] at hck
 exact ck0 hck.2.2.2 cx hf n (by rw[hck.1.1,hck.1.2,hck.2.1,hck.2.2.1];rfl) (h▸k)
abbrev gl (n:Nat) (f:Func):Code:=(A2 n (f.body.getD .skip)).getD .skip
abbrev l9 (s:ByteArray):Leaf:=.v (.string s)
abbrev j7 (i o:Nat):SV:=.c (.l (.p i o))
abbrev j9 (l:List Leaf) (t:Nat):n6:=⟨l,.t t⟩
abbrev o8 (l:List Leaf) (a b c:Nat):n6:=⟨l,.r a b c⟩
abbrev l8 (x:Int):Leaf:=.v (.int .u8 x)
abbrev i8 (x:Int):SV:=iv .i64 x
abbrev l4 (x:Leaf):SV:=.c (.l x)
abbrev Rw:=Option (Bool->St->List SV->Option Cr)
end Ab
end
end Go.Proofs.YtpdckpifhniioaaGreat
