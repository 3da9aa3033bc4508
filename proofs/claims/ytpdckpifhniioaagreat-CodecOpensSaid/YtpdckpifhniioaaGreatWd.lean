/- Part 4 of what CodecOpens rests on. -/
import Derived.WalkKit
import Derived.WalkLawsBesides
import Derived.WalkSpells
import Derived.Lib.Hide
import Derived.Laws.IdiomStrings
import Derived.Deep.Quiet
import Derived.Deep.QuietTactic
import Derived.BigQuiet
import Derived.IntWalk
import Derived.Laws.Bits128
import Derived.Laws.BitsAllLaws
import Derived.Maps.AppendAt
import Derived.Deep.DeepCutAuto
import Derived.Deep.CutBlock
import Derived.Deep.LoopGhost
import Derived.Lib.Builder
import Derived.Lib.UnsafeStr
import Derived.Laws.Externs
import Derived.Test.YtpdckpifhniioaaGreatProg
import Derived.Deep.Light
import Derived.Deep.OwnRows
import Derived.Deep.MidRow
import Derived.Deep.WholeRow
import Derived.Deep.RegionHeld3
import Derived.Deep.DrawnRows
import Derived.Deep.Cut
import Derived.Test.YtpdckpifhniioaaGreatWc
open Go.Proofs.Tryz
set_option maxRecDepth 100000
set_option maxHeartbeats 8000000
set_option linter.unusedVariables false
set_option linter.unusedSimpArgs false
namespace Go.Proofs.YtpdckpifhniioaaGreat
open Go.RowKit
section
namespace Cod
section
theorem F0 {k:IntKind} {a b:Int} (h:a=b):Ending.returned (.int k a)=.returned (.int k b):=by rw[h]
section
variable {P:Program}
theorem Y1 (w:World) (src dst e:TypeId) (hs:P.underlying src=some (.slice e)) (he:P.underlying e=some (.int .u8)) (hd:P.underlying dst=some .string)
  (g:Nat) (t:TypeId) (fr:Nat×Nat) (C:Array Value) (hg:w.heap[g]? = some (.cells C t fr)) (k n cap:Nat) (l:List UInt8) (hn:l.length=n)
  (hl:∀j (h:j<l.length),C[k+j]? = some (.int .u8 (l[j].toNat:Int))) :
  (convert src dst (.slice (some ⟨g,k,none⟩) n cap)).run P w=.ok (.string ⟨l.toArray⟩) w:=by
 subst hn
 refine run_convert_bytes_back w src dst e _ cap l hs he hd fun j hj=>?_
 have:(⟨g,k,none⟩:Addr).add j=⟨g,k+j,none⟩:=by unfold Addr.add;split<;>simp_all
 rw[this]
 unfold World.cell?
 rw[hg]
 simpa using hl j hj
end
def t4 (l:List UInt8):List Value:=l.map fun b=>Value.int .u8 (b.toNat:Int)
theorem M7 (l:List UInt8):(t4 l).length=l.length:=by simp[t4]
theorem C3 (l m:List UInt8):t4 (l++m)=t4 l++t4 m:=by simp[t4]
section
variable {P:Program}
theorem fQ {ops:Array Oper} {rest:List Oper} {o:Oper} {a:Act} {Q:Exit->Act->World->Prop} (w:World) (hgd:o.guard=none) (s x:Operand) (t e:TypeId)
  (ho:o.op=.call {callee:=.builtin .append,args:=#[s,x],argTypes:=#[t,t]}) (ht:P.underlying t=some (.slice e))
  (z:Value) (bytes:Nat) (hinfo:(P.info? e).map (fun i=>(i.zero,i.size,i.bytes))=some (some z,1,bytes)) (hz:z.cells.size=1)
  (base:Nat) (v:Value) (n:Nat) (xs:List Value) (hs:a.eval s=v) (hown:w.ownsRow base e 1 v n xs)
  (u:Value) (fr:Nat×Nat) (hx:a.eval x=.slice (some ⟨w.heap.size,0,none⟩) 1 1) (hu:u.oneCell'=true)
  (hlen:n+1<=1000000000) (hby:bytes<=64) (hbase:base<=w.heap.size)
  (h:∀v' w',w'.ownsRow base e 1 v' (n+1) (xs++[u])->v'≠.slice none 0 0->Below base w w'->w.heap.size<w'.heap.size->wpList P ops Q rest (a.put o.dst v') w') :
  wpList P ops Q (o::rest) a (w.alloc (.cells #[u] e fr)):=by
 obtain ⟨i0,hi,hz0,hz1,hz2⟩:=info_parts hinfo
 refine wpList_append_own _ hgd s x t ho base e i0 z 1 bytes ht hi hz0 hz1 hz2 hz (by decide) v n xs hs (hown.alloc _) ⟨w.heap.size,0,none⟩ 1 1 [u] hx rfl ?_ ?_ ?_ ?_ ?_ ?_
 ·intro j u' hj
  match j,hj with
  |0,hj=>
   simp at hj
   subst hj
   have:(⟨w.heap.size,0,none⟩:Addr).add 0=⟨w.heap.size,0,none⟩:=by unfold Addr.add;split<;>simp_all
   rw[this,World.cell?_alloc_mark];rfl
 ·intro u' h'
  simp at h'
  subst h';exact hu
 ·unfold maxLen;omega
 ·exact Nat.le_trans (Nat.mul_le_mul hlen hby) (by omega)
 ·rw[World.size_alloc];omega
 ·intro v' w' hown' hg hnil
  have hsz:=hg.size
  rw[World.size_alloc] at hsz
  refine h v' w' hown' (fun hv=>by have:=(hnil.1 hv).2;omega) ?_ (by omega)
  refine ((Below.refl base w).alloc hbase _).grown hg (by rw[World.size_alloc];omega) fun k hk=>?_
  exact (hown.lt k hk).1
theorem U1 (w:World) (src dst e:TypeId) (hs:P.underlying src=some (.slice e)) (he:P.underlying e=some (.int .u8)) (hd:P.underlying dst=some .string)
  (base:Nat) (v:Value) (n:Nat) (l:List UInt8) (hown:w.ownsRow base e 1 v n (t4 l)):(convert src dst v).run P w=.ok (.string ⟨l.toArray⟩) w:=by
 have hl:l.length=n:=by have:=hown.1;rw[M7] at this;omega
 rcases hown.2 with ⟨rfl,h0⟩|⟨g,cap,cur,rfl,_,hg,hnc,_,hsz,htk⟩
 ·subst h0
  have:l=[]:=List.eq_nil_of_length_eq_zero hl
  subst this
  rw[run_convert_bytes_string w src dst e none 0 0 hs he hd]
  simp[Conv.bytesToString]
  rfl
 ·refine Y1 w src dst e hs he hd g e _ cur hg 0 n cap l hl fun j hj=>?_
  have h1:(cur.toList.take (n*1))[j]? = (t4 l)[j]?:=by rw[htk]
  rw[List.getElem?_take,if_pos (by omega)] at h1
  rw[Nat.zero_add,<-Array.getElem?_toList,h1]
  simp[t4,List.getElem?_eq_getElem hj]
end
end
section
section
variable {P:Program} {ops:Array Oper} {C:World->Prop} {Q:Act->Prop} {rest:List Oper} {o:Oper} {a:Act}
theorem aV {K:Act->Prop} (h:∃v,(∀x,C x->(execOp a.eval o).run P x=.ok (.value v) x)/\K (a.put o.dst v)):o.quiet P a C K:=by
 obtain ⟨v,h,k⟩:=h
 exact ⟨v,fun x hx=>by unfold Oper.quietAt;rw[h x hx];exact ⟨rfl,rfl⟩,k⟩
theorem mK {K:Act->Prop} (f:FuncId) (h:∃args,(∀x,C x->(execOp a.eval o).run P x=.ok (.enter f args) x)/\
  ∃v,(∀x,C x->Calls P f args x fun e x'=>e=.returned v/\C x')/\K (a.put o.dst v)):o.quiet P a C K:=by
 obtain ⟨args,h,v,hc,k⟩:=h
 exact ⟨v,fun x hx=>by unfold Oper.quietAt;rw[h x hx];exact ⟨rfl,hc x hx⟩,k⟩
theorem K2 {id:Nat} {Q:Exit->Act->World->Prop} {a:Act} {w:World} {l:List Oper} (hm:P.follows .mixedOrders=true) (hB:Region.lexB .any l.toArray=true) (hC:C w.drew)
  (h:wpQuiet P l.toArray C (fun a'=>∀w',C w'->Q .normal a' w') l a):(Code.region id l.toArray true).wp P Q a w:=
 wp_region_quiet hm hB hC (by simpa using h)
end
end
section
section
variable {P:Program}
theorem wn {o:Oper} {y:Nat->Option Bool} (h:o.guard=none):Region.wanted o y=true:=by unfold Region.wanted;rw[h]
theorem kK {id:Nat} {l:List Oper} {a:Act} {w:World} {Q:Exit->Act->World->Prop} (lit:(Nat->Value)->Act) (hlit:∀u,fill l u a=lit u) (hm:P.follows .mixedOrders=true) (hL:aS l.toArray=true) (hd:distinct l=true) (hg:(l.all fun o=>o.guard.isNone)=true) (T:Nat->Value->World->Prop)
  (hstep:∀i o,l[i]? = some o->∀u x,n7 w x->(∀j,gP o j=true->T j (u j) x)->
   o.wp P (lit u) x (fun a' x'=>∃v,a'=(lit u).put o.dst v/\n7 x x'/\Al x' (T i v)) Q)
  (hend:∀u x,n7 w x->(∀i,i<l.length->T i (u i) x)->Q .normal (lit u) x):(Code.region id l.toArray true).wp P Q a w:=by
 refine nI hm hL hd T ?_ ?_
 ·intro i o ho u x hx hT
  have hgo:o.guard=none:=by
   have:=(List.all_eq_true.1 hg) o (List.mem_of_getElem? ho)
   simpa using this
  rw[if_pos (wn hgo),hlit u]
  exact hstep i o ho u x hx fun j hj=>(hT j hj).now
 ·intro u x hx hT
  rw[hlit u]
  exact hend u x hx fun i hi=>(hT i hi).now
theorem oA {id:Nat} {l:List Oper} {a:Act} {w:World} {Q:Exit->Act->World->Prop} (lit:(Nat->Value)->Act) (hlit:∀u,fill l u a=lit u) (hm:P.follows .mixedOrders=true) (hL:aS l.toArray=true) (hd:distinct l=true) (hg:(l.all fun o=>o.guard.isNone)=true) (Inv:(Nat->Bool)->(Nat->Value)->World->Prop)
  (h0:∀u,Inv (fun _=>false) u w.drew)
  (hstep:∀D u x i o,l[i]? = some o->D i=false->(∀j,gP o j=true->D j=true)->Inv D u x->
   o.wp P (lit u) x (fun a' x'=>∃v,a'=(lit u).put o.dst v/\Inv (fun j=>if j=i then true else D j) (K3 u i v) x') Q)
  (hend:∀D u x,(∀i,i<l.length->D i=true)->Inv D u x->Q .normal (lit u) x):(Code.region id l.toArray true).wp P Q a w:=by
 refine mR hm hg (fun D a' x=>∃u,a'=lit u/\Inv D u x) ?_ ?_ ?_
 ·obtain ⟨u,hu⟩:=eK l a
  exact ⟨u,by rw[<-hlit u,hu],h0 u⟩
 ·rintro D a' x i o ho hD hdep ⟨u,rfl,hI⟩
  have dep:∀j,gP o j=true->D j=true:=by
   intro j hj
   obtain ⟨k,hk,he⟩:=Array.any_eq_true.1 hj
   simp only[Bool.and_eq_true,beq_iff_eq] at he
   have:=hdep _ (Array.getElem_mem hk) he.2
   rwa [he.1] at this
  refine Oper.wp_mono ?_ (hstep D u x i o ho hD dep hI)
  rintro a'' x' ⟨v,rfl,h⟩
  refine ⟨K3 u i v,?_,h⟩
  rw[<-hlit u,<-hlit (K3 u i v)]
  exact lZ l u a i o v hd ho
 ·rintro D a' x hD ⟨u,rfl,hI⟩
  exact hend D u x (zE hL hD) hI
variable {o:Oper} {a:Act} {x:World} {Q:Exit->Act->World->Prop} {K:Value->World->Prop}
theorem V9 {v:Value} {x':World} (h:(execOp a.eval o).run P x=.ok (.value v) x') (hK:K v x'):o.wp P a x (fun a' x'=>∃v,a'=a.put o.dst v/\K v x') Q:=by
 unfold Oper.wp;rw[h];exact ⟨v,rfl,hK⟩
theorem Ud {x':World} (h:(execOp a.eval o).run P x=.ok .skip x') (hK:K undef x'):o.wp P a x (fun a' x'=>∃v,a'=a.put o.dst v/\K v x') Q:=by
 unfold Oper.wp;rw[h];exact ⟨undef,rfl,hK⟩
end
end
section
section
variable {P:Program} {C:World->Prop}
def dep (o:Oper) (j:Nat):Bool:=o.after.any fun e=>Region.binds .any e&&e.on==j
def uU (l:List Oper) (st:Oper):Bool:=(List.range l.length).all fun j=>dep st j || (List.range l.length).any fun k=>dep st k&&(match l[k]? with|some o=>dep o j|none=>false)
theorem eF {o:Oper} {listed:Array Bool} {j:Nat} (h:(o.after.all fun e=>!Region.binds .any e || listed.getD e.on false)=true) (hd:dep o j=true):listed.getD j false=true:=by
 obtain ⟨k,hk,hke⟩:=Array.any_eq_true.1 hd
 simp only[Bool.and_eq_true,beq_iff_eq] at hke
 have h2:=(Array.all_eq_true.1 h) k hk
 rw[hke.1,hke.2] at h2
 simpa using h2
theorem wL {l:List Oper} {st nop:Oper} {Q:Exit->Act->World->Prop} (hd:nop.dst=st.dst) (hg:nop.guard=st.guard) (hgn:st.guard=none) (hdn:st.dst=none) (ha:nop.after=st.after)
  (hL:aS (l++[st]).toArray=true) (hw:uU l st=true) :
  ∀(fuel:Nat) (listed:Array Bool) (a:Act) (w:World),listed.size=l.length+1->listed.getD l.length true=false->C w->(∀i o,l[i]? = some o->listed.getD i false=true->∀j,j<l.length->dep o j=true->listed.getD j false=true)->
   wpAnyQ P .any (l++[nop]).toArray C (fun a'=>∀w',C w'->st.wp P a' w' (fun a w=>Q .normal a w) Q) fuel listed a->wpAny P .any (l++[st]).toArray Q fuel listed a w:=by
 have hsz:∀x:Oper,(l++[x]).toArray.size=l.length+1:=by simp
 have hat:∀(x:Oper) (i:Nat),i<l.length->(l++[x]).toArray[i]? = l[i]?:=by intro x i hi;simp[List.getElem?_append_left hi]
 have hlast:∀x:Oper,(l++[x]).toArray[l.length]? = some x:=by intro x;simp
 have hy:∀tmps j,yielded (l++[nop]).toArray tmps j=yielded (l++[st]).toArray tmps j:=by
  intro tmps j
  unfold yielded
  rcases Nat.lt_trichotomy j l.length with h|h|h
  ·rw[hat _ _ h,hat _ _ h]
  ·subst h;rw[hlast,hlast];simp[hd]
  ·rw[Array.getElem?_eq_none (by rw[hsz];omega),Array.getElem?_eq_none (by rw[hsz];omega)]
 have hrd:∀listed,Region.ready .any (l++[nop]).toArray listed=Region.ready .any (l++[st]).toArray listed:=by
  intro listed
  unfold Region.ready
  rw[hsz,hsz]
  apply List.filter_congr
  intro i hi
  have hi:i<l.length+1:=by simpa using hi
  by_cases h:i<l.length
  ·rw[hat _ _ h,hat _ _ h]
  ·obtain rfl:i=l.length:=by omega
   rw[hlast,hlast];simp[ha]
 intro fuel
 induction fuel with
 |zero=>
  intro listed a w hs hu hC hcl h
  exfalso
  refine V2 hL listed (by rw[hsz];exact hs) (i:=l.length) (by rw[hsz];omega) ?_ (by rw[<-hrd];exact h.1)
  simpa [Array.getD,hs] using hu
 |succ fuel ih=>
  intro listed a w hs hu hC hcl h
  refine ⟨fun hr=>?_,fun i hi=>?_⟩
  ·exfalso
   refine V2 hL listed (by rw[hsz];exact hs) (i:=l.length) (by rw[hsz];omega) ?_ hr
   simpa [Array.getD,hs] using hu
  ·have hq:=h.2 i (by rw[hrd];exact hi)
   have hlt:i<l.length+1:=by have:=(List.mem_filter.1 hi).1;simpa [hsz] using this
   by_cases hil:i<l.length
   ·unfold qOp at hq
    unfold wpOp
    rw[hat _ _ hil] at hq⊢
    have ho:l[i]? = some l[i]:=List.getElem?_eq_getElem hil
    rw[ho] at hq⊢
    simp only at hq⊢
    have hwe:Region.wanted l[i] (yielded (l++[nop]).toArray a.tmps)=Region.wanted l[i] (yielded (l++[st]).toArray a.tmps):=by
     congr 1;funext j;exact hy _ _
    rw[hwe] at hq
    have hnext:∀a' w',C w'->wpAnyQ P .any (l++[nop]).toArray C (fun a'=>∀w',C w'->st.wp P a' w' (fun a w=>Q .normal a w) Q) fuel (listed.setIfInBounds i true) a'->wpAny P .any (l++[st]).toArray Q fuel (listed.setIfInBounds i true) a' w':=by
     intro a' w' hw' hh
     refine ih _ a' w' (by simpa using hs) ?_ hw' ?_ hh
     ·rw[Array.getD_eq_getD_getElem?,Array.getElem?_setIfInBounds_ne (by omega),<-Array.getD_eq_getD_getElem?]
      exact hu
     ·intro i' o' ho' hl' j hj hdj
      have hj2:listed.getD j false=true:=by
       by_cases e:i'=i
       ·subst e
        have hr2:=(List.mem_filter.1 hi).2
        simp only[Bool.and_eq_true] at hr2
        have hd2:=hr2.2
        rw[hat _ _ hil,ho'] at hd2
        simp only[Option.map_some,Option.getD_some] at hd2
        exact eF hd2 hdj
       ·rw[Array.getD_eq_getD_getElem?,Array.getElem?_setIfInBounds_ne (Ne.symm e),<-Array.getD_eq_getD_getElem?] at hl'
        exact hcl i' o' ho' hl' j hj hdj
      by_cases e:j=i
      ·subst e
       simp[Array.getD,hs];omega
      ·rw[Array.getD_eq_getD_getElem?,Array.getElem?_setIfInBounds_ne (Ne.symm e),<-Array.getD_eq_getD_getElem?]
       exact hj2
    split
    ·rename_i hwt;rw[if_pos hwt] at hq
     exact .inl (Oper.wp_of_quiet hC hnext hq)
    ·rename_i hwt;rw[if_neg hwt] at hq
     exact hnext _ _ hC hq
   ·obtain rfl:i=l.length:=by omega
        -- the last: all the others have come up
    have hrn:Region.ready .any (l++[st]).toArray (listed.setIfInBounds l.length true)=[]:=by
     have hr2:=(List.mem_filter.1 hi).2
     simp only[Bool.and_eq_true] at hr2
     have hd2:=hr2.2
     rw[hlast] at hd2
     simp only[Option.map_some,Option.getD_some] at hd2
     unfold Region.ready
     rw[List.filter_eq_nil_iff]
     intro j hj
     have hj:j<l.length+1:=by simpa [hsz] using hj
     have:(listed.setIfInBounds l.length true).getD j true=true:=by
      by_cases hjl:j=l.length
      ·subst hjl;simp[Array.getD,hs]
      ·have hjl':j<l.length:=by omega
       have h1:=(List.all_eq_true.1 hw) j (by simpa using hjl')
       have h3:listed.getD j false=true:=by
        rcases Bool.or_eq_true _ _▸h1 with h1|h1
        ·exact eF hd2 h1
        ·obtain ⟨k,hk,hk2⟩:=List.any_eq_true.1 h1
         have hk:k<l.length:=by simpa using hk
         simp only[Bool.and_eq_true] at hk2
         have hkl:=eF hd2 hk2.1
         rw[List.getElem?_eq_getElem hk] at hk2
         exact hcl k l[k] (List.getElem?_eq_getElem hk) hkl j hjl' hk2.2
       rw[Array.getD_eq_getD_getElem?,Array.getElem?_setIfInBounds_ne (Ne.symm hjl)]
       rw[Array.getD_eq_getD_getElem?] at h3
       have hjs:j<listed.size:=by omega
       rw[Array.getElem?_eq_getElem hjs] at h3⊢
       simpa using h3
     simp[this]
    unfold qOp at hq
    rw[hlast] at hq
    simp only at hq
    have hwn:Region.wanted nop (yielded (l++[nop]).toArray a.tmps)=true:=by unfold Region.wanted;rw[hg,hgn]
    rw[if_pos hwn] at hq
    obtain ⟨v,_,hq2⟩:=hq
    have hQ:∀w',C w'->st.wp P a w' (fun a w=>Q .normal a w) Q:=by
     have hput:a.put nop.dst v=a:=by rw[hd,hdn];rfl
     rw[hput] at hq2
     cases fuel with
     |zero=>exact hq2.2
     |succ f=>exact hq2.1 (by rw[hrd];exact hrn)
    unfold wpOp
    rw[hlast]
    simp only
    have hwn':Region.wanted st (yielded (l++[st]).toArray a.tmps)=true:=by unfold Region.wanted;rw[hgn]
    rw[if_pos hwn']
    exact .inl (Oper.wp_mono (fun a' w' h'=>wpAny_done hrn h' fuel) (hQ w hC))
theorem kN {id:Nat} {l:List Oper} {st:Oper} {Q:Exit->Act->World->Prop} {a:Act} {w:World} (hm:P.follows .mixedOrders=true)
  (hB:Region.lexB .any (l++[{st with op:=.move (.const (.bool false))}]).toArray=true) (hL:aS (l++[st]).toArray=true) (hw:uU l st=true) (hgn:st.guard=none) (hdn:st.dst=none) (hC:C w.drew)
  (h:wpQuiet P (l++[{st with op:=.move (.const (.bool false))}]).toArray C (fun a'=>∀w',C w'->st.wp P a' w' (fun a w=>Q .normal a w) Q) l a):(Code.region id (l++[st]).toArray true).wp P Q a w:=by
 refine wp_region_any hm ?_
 obtain ⟨nop,hnop⟩:∃nop,nop=({st with op:=.move (.const (.bool false))}:Oper):=⟨_,rfl⟩
 rw[<-hnop] at h hB
 have e:(l++[st]).toArray.size=l.length+1:=by simp
 rw[e]
 refine wL (nop:=nop) (by rw[hnop]) (by rw[hnop]) hgn hdn (by rw[hnop]) hL hw (l.length+1) (Array.replicate (l.length+1) false) a _ (by simp) (by simp[Array.getD]) hC (fun i o ho h=>by simp[Array.getD] at h) ?_
 simp only[Region.lexB,Bool.and_eq_true] at hB
 have hlen:(l++[nop]).toArray.size=l.length+1:=by simp
 have h2:wpQuiet P (l++[nop]).toArray C (fun a'=>∀w',C w'->st.wp P a' w' (fun a w=>Q .normal a w) Q) (l++[nop]) a:=by
  have gen:∀(m:List Oper) (b:Act),wpQuiet P (l++[nop]).toArray C (fun a'=>∀w',C w'->st.wp P a' w' (fun a w=>Q .normal a w) Q) m b->wpQuiet P (l++[nop]).toArray C (fun a'=>∀w',C w'->st.wp P a' w' (fun a w=>Q .normal a w) Q) (m++[nop]) b:=by
   intro m
   induction m with
   |nil=>
    intro b hb
    have hwn:Region.wanted nop (yielded (l++[nop]).toArray b.tmps)=true:=by unfold Region.wanted;rw[hnop];simp[hgn]
    show if _ then _ else _
    rw[if_pos hwn]
    refine ⟨.bool false,fun w _=>?_,?_⟩
    ·unfold Oper.quietAt
     rw[hnop]
     simp[execOp,go_sem,Oper.quietUpon]
    ·have:nop.dst=none:=by rw[hnop];exact hdn
     rw[this];exact hb
   |cons o m ih=>
    intro b hb
    show if _ then _ else _
    have hb:if Region.wanted o (yielded (l++[nop]).toArray b.tmps) then o.quiet P b C (wpQuiet P (l++[nop]).toArray C (fun a'=>∀w',C w'->st.wp P a' w' (fun a w=>Q .normal a w) Q) m) else wpQuiet P (l++[nop]).toArray C (fun a'=>∀w',C w'->st.wp P a' w' (fun a w=>Q .normal a w) Q) m (b.put o.dst undef):=hb
    split
    ·rename_i hwt;rw[if_pos hwt] at hb;exact Oper.quiet_mono (fun _=>ih _) hb
    ·rename_i hwt;rw[if_neg hwt] at hb;exact ih _ hb
  exact gen l a h
 have:=wpAnyQ_lex (P:=P) (C:=C) (md:=.any) (ops:=(l++[nop]).toArray) hB.1 (l++[nop]) 0 (Array.replicate (l.length+1) false) a (by simp) (by simpa using hB.2) h2
 simpa using this
theorem iH {id:Nat} {ops:List Oper} (st:Oper) {Q:Exit->Act->World->Prop} {a:Act} {w:World} (hst:ops.getLast? = some st) (hm:P.follows .mixedOrders=true)
  (hB:Region.lexB .any (ops.dropLast++[{st with op:=.move (.const (.bool false))}]).toArray=true) (hL:aS ops.toArray=true) (hw:uU ops.dropLast st=true) (hgn:st.guard=none) (hdn:st.dst=none) (hC:C w.drew)
  (h:wpQuiet P (ops.dropLast++[{st with op:=.move (.const (.bool false))}]).toArray C (fun a'=>∀w',C w'->st.wp P a' w' (fun a w=>Q .normal a w) Q) ops.dropLast a):(Code.region id ops.toArray true).wp P Q a w:=by
 have e:ops=ops.dropLast++[st]:=by
  rcases List.eq_nil_or_concat ops with rfl|⟨l,x,rfl⟩
  ·simp at hst
  ·simp at hst⊢;exact hst
 have:=kN (C:=C) (id:=id) (Q:=Q) (a:=a) (w:=w) (l:=ops.dropLast) (st:=st) hm hB (by rw[<-e];exact hL) hw hgn hdn hC h
 rw[<-e] at this
 exact this
theorem Y2 {id:Nat} {ops:List Oper} {Q:Exit->Act->World->Prop} {a:Act} {w:World} (hne:ops.isEmpty=false) (hm:P.follows .mixedOrders=true)
  (hB:Region.lexB .any (ops.dropLast++[{ (V8 ops) with op:=.move (.const (.bool false))}]).toArray=true) (hL:aS ops.toArray=true) (hw:uU ops.dropLast (V8 ops)=true) (hgn:(V8 ops).guard=none) (hdn:(V8 ops).dst=none) (hC:C w.drew)
  (h:wpQuiet P (ops.dropLast++[{ (V8 ops) with op:=.move (.const (.bool false))}]).toArray C (fun a'=>∀w',C w'->(V8 ops).wp P a' w' (fun a w=>Q .normal a w) Q) ops.dropLast a):(Code.region id ops.toArray true).wp P Q a w:=
 iH (C:=C) _ (jO ops (by intro e;subst e;simp at hne)) hm hB hL hw hgn hdn hC h
end
end
section
theorem _root_.Go.Proofs.YtpdckpifhniioaaGreat.n7.cell {x y:World} (h:n7 x y) {a:Addr} {v:Value} (hc:x.cell? a=some v):y.cell? a=some v:=by
 have hb:a.block<x.heap.size:=by
  by_cases hb:a.block<x.heap.size
  ·exact hb
  ·unfold World.cell? at hc;rw[Array.getElem?_eq_none (by omega)] at hc;simp at hc
 have:y.cell? a=x.cell? a:=by unfold World.cell?;rw[Below.block h _ hb]
 rw[this,hc]
theorem _root_.Go.Proofs.YtpdckpifhniioaaGreat.n7.size {x y:World} (h:n7 x y):x.heap.size<=y.heap.size:=Below.size h
theorem _root_.Go.Proofs.YtpdckpifhniioaaGreat.n7.a {x y:World} (h:n7 x y) (o:Obj):n7 x (y.alloc o):=h.trans (n7.alloc y o)
section
variable {P:Program}
end
end
section
def cv (n:Nat) (C:Nat->Value):Array Value:=((List.range n).map C).toArray
theorem D5 (n:Nat) (C:Nat->Value):(cv n C).size=n:=by simp[cv]
theorem oV (n:Nat) (C:Nat->Value) (i:Nat) (h:i<n):(cv n C)[i]? = some (C i):=by simp[cv,h]
theorem uN (n:Nat) (C:Nat->Value) (i:Nat) (h:n<=i):(cv n C)[i]? = none:=by simp[cv,h]
theorem Qs (n:Nat) (C D:Nat->Value) (h:∀i,i<n->C i=D i):cv n C=cv n D:=by
 unfold cv
 congr 1
 exact List.map_congr_left fun i hi=>h i (by simpa using hi)
def H6 (C:Nat->Value) (i:Nat) (v:Value):Nat->Value:=fun k=>if k=i then v else C k
theorem tT (n:Nat) (C:Nat->Value) (i:Nat) (v:Value):(cv n C).setIfInBounds i v=cv n (H6 C i v):=by
 apply Array.ext_getElem?
 intro j
 rw[Array.getElem?_setIfInBounds]
 by_cases hj:j<n
 ·have h1:=oV n C j hj
  have h2:=oV n (H6 C i v) j hj
  by_cases e:i=j
  ·subst e
   rw[if_pos rfl,if_pos (by rw[D5];exact hj),h2]
   simp[H6]
  ·rw[if_neg e,h1,h2]
   simp[H6,Ne.symm e]
 ·have h1:=uN n C j (by omega)
  have h2:=uN n (H6 C i v) j (by omega)
  by_cases e:i=j
  ·subst e
   rw[if_pos rfl,if_neg (by rw[D5];exact hj),h2]
  ·rw[if_neg e,h1,h2]
def n6 (w:World) (g:Nat) (t:TypeId) (n:Nat) (C:Nat->Value):Prop:=w.heap[g]? = some (.cells (cv n C) t (0,0))
theorem n6.lt {w g t n C} (h:n6 w g t n C):g<w.heap.size:=(Array.getElem?_eq_some_iff.1 h).1
theorem n6.cell {w g t n C} (h:n6 w g t n C) (i:Nat) (hi:i<n):w.cell? ⟨g,i,none⟩=some (C i):=by
 rw[cell_of_row w g i _ _ _ h];exact oV n C i hi
theorem n6.free {w g t n C} (h:n6 w g t n C) (i:Nat):w.frozen? ⟨g,i,none⟩=false:=frozen_of_row w g i _ _ h
theorem n6.set {w g t n C} (h:n6 w g t n C) (i:Nat) (v:Value):n6 (w.setCell ⟨g,i,none⟩ v) g t n (H6 C i v):=by
 unfold n6;rw[heap_setCell_same _ _ _ _ _ _ h,tT]
theorem n6.other {w g t n C} (h:n6 w g t n C) (a:Addr) (v:Value) (hne:g≠a.block):n6 (w.setCell a v) g t n C:=by
 unfold n6;rw[heap_setCell_other _ _ _ _ hne];exact h
theorem n6.grow {w w' g t n C} (h:n6 w g t n C) (hg:n7 w w'):n6 w' g t n C:=hg.block h
theorem n6.congr {w g t n C D} (h:n6 w g t n C) (he:∀i,i<n->C i=D i):n6 w g t n D:=by
 unfold n6 at h⊢;rw[h,Qs n C D he]
def cc (p:Nat->Int) (lo en:Int) (X:Nat->Value):Nat->Value:=fun i=>if i<256 then .int .i16 (p i-2048) else if i=256 then .int .u32 lo else if i=257 then .int .u32 en else X i
def cr (p:Nat->Int) (lo hi:Int) (X:Nat->Value):Nat->Value:=fun i=>if i<256 then .int .i64 (p i) else if i=256 then .int .u32 lo else if i=257 then .int .u32 hi else X i
theorem Dq {p lo en X} (i:Nat) (h:i<256):cc p lo en X i=.int .i16 (p i-2048):=by simp[cc,h]
theorem dI {p lo en X}:cc p lo en X 256=.int .u32 lo:=by simp[cc]
theorem fI {p lo en X}:cc p lo en X 257=.int .u32 en:=by simp[cc]
theorem Hy {p lo en X} (i:Nat) (h:258<=i):cc p lo en X i=X i:=by unfold cc;rw[if_neg (by omega),if_neg (by omega),if_neg (by omega)]
theorem Xh {p lo en X} (i:Nat) (h:i<256):cr p lo en X i=.int .i64 (p i):=by simp[cr,h]
theorem rF {p lo en X}:cr p lo en X 256=.int .u32 lo:=by simp[cr]
theorem xB {p lo en X}:cr p lo en X 257=.int .u32 en:=by simp[cr]
theorem kL {p lo en X} (i:Nat) (h:258<=i):cr p lo en X i=X i:=by unfold cr;rw[if_neg (by omega),if_neg (by omega),if_neg (by omega)]
theorem wJ {p lo en X} (i:Nat) (h:i<256) (v:Int):H6 (cc p lo en X) i (.int .i16 (v-2048))=cc (M.put p i v) lo en X:=by
 funext k
 unfold H6 cc M.put
 by_cases e:k=i
 ·subst e;simp[h]
 ·simp[e]
theorem cI {p lo en X} (v:Int):H6 (cc p lo en X) 256 (.int .u32 v)=cc p v en X:=by
 funext k
 unfold H6 cc
 by_cases e:k=256
 ·subst e;simp
 ·simp[e]
theorem cV {p lo en X} (v:Int):H6 (cc p lo en X) 257 (.int .u32 v)=cc p lo v X:=by
 funext k
 unfold H6 cc
 by_cases e:k=257
 ·subst e;simp
 ·simp[e]
theorem bC {p lo en X} (i:Nat) (h:258<=i) (v:Value):H6 (cc p lo en X) i v=cc p lo en (H6 X i v):=by
 funext k
 unfold H6 cc
 by_cases e:k=i
 ·subst e;simp[show ¬k<256 by omega,show k≠256 by omega,show k≠257 by omega]
 ·simp[e]
theorem yF {p lo en X} (i:Nat) (h:i<256) (v:Int):H6 (cr p lo en X) i (.int .i64 v)=cr (M.put p i v) lo en X:=by
 funext k
 unfold H6 cr M.put
 by_cases e:k=i
 ·subst e;simp[h]
 ·simp[e]
theorem rA {p lo en X} (v:Int):H6 (cr p lo en X) 256 (.int .u32 v)=cr p v en X:=by
 funext k
 unfold H6 cr
 by_cases e:k=256
 ·subst e;simp
 ·simp[e]
theorem iW {p lo en X} (v:Int):H6 (cr p lo en X) 257 (.int .u32 v)=cr p lo v X:=by
 funext k
 unfold H6 cr
 by_cases e:k=257
 ·subst e;simp
 ·simp[e]
theorem mI {p lo en X} (i:Nat) (h:258<=i) (v:Value):H6 (cr p lo en X) i v=cr p lo en (H6 X i v):=by
 funext k
 unfold H6 cr
 by_cases e:k=i
 ·subst e;simp[show ¬k<256 by omega,show k≠256 by omega,show k≠257 by omega]
 ·simp[e]
theorem vT (n:Int) (k:Nat) (m:Int) (hk:k<=8) (hm:(BitVec.ofInt 64 m).toNat=2 ^ k-1):bits .and .i64 n m=n % (2 ^ k:Nat):=by
 have key:(BitVec.ofInt 64 n &&& BitVec.ofInt 64 m).toNat=(n % ((2 ^ 64:Nat):Int)).toNat % 2 ^ k:=by
  rw[BitVec.toNat_and,BitVec.toNat_ofInt,hm,Nat.and_two_pow_sub_one_eq_mod]
 show IntKind.i64.wrap ((BitVec.ofInt 64 n &&& BitVec.ofInt 64 m).toNat:Nat)=n % (2 ^ k:Nat)
 rw[key,IntKind.wrap_i64]
 have h2:2 ^ k<=2 ^ 8:=Nat.pow_le_pow_right (by omega) hk
 obtain rfl|rfl|rfl|rfl|rfl|rfl|rfl|rfl|rfl:k=0\/k=1\/k=2\/k=3\/k=4\/k=5\/k=6\/k=7\/k=8:=by omega
 all_goals omega
theorem eX (n:Int):bits .and .i64 n 255=n % 256:=vT n 8 255 (by omega) (by decide)
theorem zH (n:Int):bits .and .i64 n 1=n % 2:=vT n 1 1 (by omega) (by decide)
theorem sM (c:Nat) (h:c<4294967296):4294967295 ^^^ c=4294967295-c:=by
 apply Nat.eq_of_testBit_eq
 intro i
 have h1:=Nat.testBit_two_pow_sub_succ (x:=c) (n:=32) h i
 have h2:=Nat.testBit_two_pow_sub_one 32 i
 rw[show 4294967295-c=2 ^ 32-(c+1) by omega,h1,Nat.testBit_xor,show (4294967295:Nat)=2 ^ 32-1 from rfl,h2]
 by_cases hi:i<32
 ·simp[hi]
 ·have:c.testBit i=false:=Nat.testBit_lt_two_pow (Nat.lt_of_lt_of_le (show c<2 ^ 32 from h) (Nat.pow_le_pow_right (by omega) (by omega:32<=i)))
  simp[hi,this]
theorem fJ (x:Int) (h0:0<=x) (h1:x<=4294967295):bits .xor .u32 IntKind.u32.max x=4294967295-x:=by
 obtain ⟨c,rfl⟩:∃c:Nat,x=c:=⟨x.toNat,by omega⟩
 have h:=u32_xor_nat 4294967295 c (by omega) (by omega)
 rw[sM c (by omega)] at h
 have e:((4294967295-c:Nat):Int)=4294967295-(c:Int):=by omega
 rw[<-e];exact h
theorem Ft (n:Int) (h0:0<=n) (h1:n<=4294967295):IntKind.u32.wrap n=n:=by rw[IntKind.wrap_u32];omega
theorem mU (g:Nat) (hi:Int) (h0:0<=hi) (h1:hi<=4294967295) (w:World) (hc:w.cell? ⟨g,257,none⟩=some (.int .u32 (4294967295-hi))) :
  Calls prog 203 #[.pointer (some ⟨g,0,none⟩)] w fun e w'=>e=.returned (.int .u32 hi)/\w=w':=by
 have hn:=fJ (4294967295-hi) (by omega) (by omega)
 rw[show 4294967295-(4294967295-hi)=hi by omega] at hn
 go_enter func203,ntmps203
 go_wp2
 go_ret
 exact ⟨rfl,rfl⟩
def cx (c:Int):Nat:=(c % 256).toNat
theorem oE (c:Int):cx c<256:=by unfold cx;omega
theorem oS (c:Int):((cx c:Nat):Int)=c % 256:=by unfold cx;omega
theorem uE (g:Nat) (s:M.St) (hs:M.Ok s) (c:Int) (w:World) (hp:w.cell? ⟨g,cx c,none⟩=some (.int .i16 (s.p (cx c)-2048))) (hl:w.cell? ⟨g,256,none⟩=some (.int .u32 s.lo)) (he:w.cell? ⟨g,257,none⟩=some (.int .u32 (4294967295-s.hi))) :
  Calls prog 202 #[.pointer (some ⟨g,0,none⟩),.int .i64 c] w fun e w'=>e=.returned (.int .u32 (M.md s (cx c)))/\∃n,w'=w.drewN n:=by
 obtain ⟨p1,p2⟩:=hs.p (cx c)
 obtain ⟨m1,m2⟩:=M.Pw hs (cx c)
 have l0:=hs.lo
 have le:=hs.le
 have l1:=hs.hi
 have hm:M.md s (cx c)=s.lo+(s.hi-s.lo) / 4096*s.p (cx c):=rfl
 rw[hm]
 clear hm
 have ha:=eX c
 rw[<-oS] at ha
 have hk:=oE c
 have HI:=Lib.hid (mU g s.hi (by omega) l1)
 clear hs
 go_enter func202,ntmps202
 go_wp2
 refine K2 (C:=fun x=>∃n,x=w.drewN n) (by kernel_rfl) (by kernel_rfl) ⟨1,rfl⟩ ?_
 repeat (first
  |go_big_quiet_skip
  |(go_big_quiet_want;refine aV ?_;apply Exists.intro;refine ⟨fun x hx=>?_,?_⟩;(focus (obtain ⟨n,rfl⟩:=hx;go_simp<;>rfl));simp only[Act.put,List.setIfInBounds_toArray,List.set_cons_zero,List.set_cons_succ];go_big_quiet_on)
  |(go_big_quiet_want;refine mK 203 ?_;apply Exists.intro;refine ⟨fun x hx=>?_,?_⟩;(focus (go_simp<;>rfl));apply Exists.intro;refine ⟨fun x hx=>?_,?_⟩;(focus (obtain ⟨n,rfl⟩:=hx;exact (HI.out (w.drewN n) he).mono fun e w' h=>⟨h.1,n,h.2.symm⟩));simp only[Act.put,List.setIfInBounds_toArray,List.set_cons_zero,List.set_cons_succ];go_big_quiet_on))
 refine wpQuiet_nil ?_
 rintro x ⟨n,rfl⟩
 go_wp2
 go_ret
 refine ⟨F0 ?_,n,rfl⟩
 have e1:(s.hi-s.lo).tdiv 4096=(s.hi-s.lo) / 4096:=Int.tdiv_eq_ediv_of_nonneg (by omega)
 have e2:0<=(s.hi-s.lo) / 4096/\(s.hi-s.lo) / 4096<=4294967295:=by omega
 show IntKind.u32.wrap (s.lo+IntKind.u32.wrap (IntKind.u32.wrap ((IntKind.u32.wrap (s.hi-s.lo)).tdiv 4096)*s.p (cx c)))=_
 rw[Ft (s.hi-s.lo) (by omega) (by omega),e1,Ft ((s.hi-s.lo) / 4096) (by omega) (by omega),Ft ((s.hi-s.lo) / 4096*s.p (cx c)) (by omega) (by omega),Ft _ (by omega) (by omega)]
end
section
structure Chg (g:Nat) (row:Option Nat) (x y:World):Prop where
 os:y.os=x.os
 tape:y.tape=x.tape
 output:y.output=x.output
 size:x.heap.size<=y.heap.size
 block:∀k,k<x.heap.size->k≠g->some k≠row->y.heap[k]? = x.heap[k]?
theorem Chg.of_grow {g row x y} (h:n7 x y):Chg g row x y:=⟨Below.os h,Below.tape h,Below.output h,Below.size h,fun k hk _ _=>Below.block h k hk⟩
theorem Chg.refl (g row x):Chg g row x x:=⟨rfl,rfl,rfl,Nat.le_refl _,fun _ _ _ _=>rfl⟩
def Ae (row row':Option Nat) (x:World):Prop:=row'=row\/∃k,row'=some k/\x.heap.size<=k
theorem Chg.trans {g row row' x y z} (h:Chg g row x y) (hr:Ae row row' x) (k:Chg g row' y z):Chg g row x z:=
 ⟨k.os.trans h.os,k.tape.trans h.tape,k.output.trans h.output,Nat.le_trans h.size k.size,fun j hj hg hrow=>by
  rw[k.block j (Nat.lt_of_lt_of_le hj h.size) hg ?_,h.block j hj hg hrow]
  rcases hr with e|⟨k',e,hk'⟩
  ·rw[e];exact hrow
  ·rw[e];intro e';have:=Option.some.inj e';omega⟩
theorem Ae.trans {row row' row'' x y} (h:Ae row row' x) (hs:x.heap.size<=y.heap.size) (k:Ae row' row'' y):Ae row row'' x:=by
 rcases k with e|⟨k,e,hk⟩
 ·rw[e];exact h
 ·exact .inr ⟨k,e,Nat.le_trans hs hk⟩
theorem Chg.below {g row x y B} (h:Chg g row x y) (hg:B<=g) (hr:∀k,row=some k->B<=k) (hB:B<=x.heap.size):Below B x y:=
 ⟨h.os,h.tape,h.output,h.size,fun k hk=>h.block k (by omega) (by omega) (fun e=>by have:=hr k e.symm;omega)⟩
theorem Chg.blk {g row x y g' t n C} (h:Chg g row x y) (hb:n6 x g' t n C) (hg:g'≠g) (hr:some g'≠row):n6 y g' t n C:=by
 have:=h.block g' hb.lt hg hr
 unfold n6 at hb⊢;rw[this];exact hb
theorem eJ:(prog.info? 5).map (fun i=>(i.zero,i.size,i.bytes))=some (some (.int .u8 0),1,1):=by kernel_rfl
theorem H9 {x:World} {B:Nat} {v:Value} {n:Nat} {xs:List Value} {g t:Nat} {c:Array Value} {fr:Nat×Nat} (h:x.ownsRow B 5 1 v n xs) (hg:x.heap[g]? = some (.cells c t fr)) (ht:t≠5):some g≠v.ownBlock:=by
 rcases h.2 with ⟨rfl,_⟩|⟨k,cap,cur,rfl,_,hk,_⟩
 ·simp[Value.ownBlock]
 ·intro e
  have e:g=k:=by simpa [Value.ownBlock] using e
  subst e
  rw[hg] at hk
  injection hk with hk
  injection hk with _ hk _
  exact ht hk
theorem G6 {x:World} {B:Nat} {e:TypeId} {v:Value} {n:Nat} {xs:List Value} (h:x.ownsRow B e 1 v n xs):∃o c,v=.slice o n c:=by
 rcases h.2 with ⟨rfl,h0⟩|⟨g,cap,cur,rfl,_⟩
 ·exact ⟨none,0,by rw[h0]⟩
 ·exact ⟨_,_,rfl⟩
section
variable {o:Oper} {ρ:Operand->Value} {x:World} {y:Operand}
theorem rI (a:Addr) (q:Option Addr) (ho:o.op=.load 202 y) (hy:ρ y=.pointer (some a)) (hc:x.cell? a=some (.pointer q)):(execOp ρ o).run prog x=.ok (.value (.pointer q)) x:=by
 unfold execOp;rw[ho];simp only[hy];go_simp
theorem Z7 (a:Addr) (ho:o.op=.nilCheck y) (hy:ρ y=.pointer (some a)):(execOp ρ o).run prog x=.ok (.value (.pointer (some a))) x:=by
 unfold execOp;rw[ho];simp only[hy];go_simp
theorem tC (g:Nat) (ho:o.op=.fieldAddr 232 y 1) (hy:ρ y=.pointer (some ⟨g,0,none⟩)):(execOp ρ o).run prog x=.ok (.value (.pointer (some ⟨g,258,none⟩))) x:=by
 unfold execOp;rw[ho];simp only[hy];go_simp
theorem qW (a:Addr) (s:Option Addr) (n c:Nat) (ho:o.op=.load 57 y) (hy:ρ y=.pointer (some a)) (hc:x.cell? a=some (.slice s n c)):(execOp ρ o).run prog x=.ok (.value (.slice s n c)) x:=by
 unfold execOp;rw[ho];simp only[hy];go_simp
theorem jH (v:Value) (ho:o.op=.move y) (hy:ρ y=v):(execOp ρ o).run prog x=.ok (.value v) x:=by
 unfold execOp;rw[ho];simp only[hy];go_simp
theorem Xr (n:Int) (ho:o.op=.buildSlice 57 1 #[(0,y)]) (hy:ρ y=.int .u8 n):(execOp ρ o).run prog x=.ok (.value (.slice (some ⟨x.heap.size,0,none⟩) 1 1)) (x.alloc (.cells #[.int .u8 n] 5)):=by
 unfold execOp;rw[ho];simp[hy];go_simp
theorem b2p (g i:Nat) (s:Option Addr) (n c:Nat) {z:Operand} (ho:o.op=.store 57 y z) (hy:ρ y=.pointer (some ⟨g,i,none⟩)) (hz:ρ z=.slice s n c) (u:Value) (hc:x.cell? ⟨g,i,none⟩=some u) (hf:x.frozen? ⟨g,i,none⟩=false):(execOp ρ o).run prog x=.ok .skip (x.setCell ⟨g,i,none⟩ (.slice s n c)):=by
 unfold execOp;rw[ho];simp only[hy,hz];go_simp
end
theorem rZ {o:Oper} {ρ:Operand->Value} {x x':World} {y z:Operand} {v:Value} (s t:Value) (ho:o.op=.call {callee:=.builtin .append,args:=#[y,z],argTypes:=#[57,57]}) (hy:ρ y=s) (hz:ρ z=t) (h:(Builtin.append_ #[57,57] o.type #[s,t]).run prog x=.ok v x'):(execOp ρ o).run prog x=.ok (.value v) x':=by
 unfold execOp;rw[ho]
 simp[resolve,invoke,builtin,hy,hz,h,Result.andThen]
def PT (g:Nat) (v:Value) (b:UInt8) (i:Nat) (u:Value):Prop:=
 match i with
 |0|1|2|8=>u=.pointer (some ⟨g,0,none⟩)
 |3|9=>u=.pointer (some ⟨g,258,none⟩)
 |4=>u=v
 |5=>u=.int .u8 (b.toNat:Int)
 |_=>True
structure PI (w:World) (g bx B:Nat) (C:Nat->Value) (v:Value) (l:List UInt8) (b:UInt8) (D:Nat->Bool) (u:Nat->Value) (x:World):Prop where
 val:∀i,D i=true->PT g v b i (u i)
 blk:D 10=false->n6 x g 232 259 C
 box:x.heap[bx]? = some (.cells #[.pointer (some ⟨g,0,none⟩)] 202 (0,0))
 tmp:D 6=true->D 7=false->∃k,u 6=.slice (some ⟨k,0,none⟩) 1 1/\x.heap[k]? = some (.cells #[.int .u8 (b.toNat:Int)] 5 (0,0))
 old:D 7=false->x.ownsRow B 5 1 v l.length (t4 l)/\n7 w x
 new:D 7=true->x.ownsRow B 5 1 (u 7) (l.length+1) (t4 (l++[b]))/\Ae v.ownBlock (u 7).ownBlock w/\Chg g v.ownBlock w x
 fin:D 10=true->n6 x g 232 259 (H6 C 258 (u 7))
 last:D 10=true->D 4=true/\D 6=true/\D 7=true
 ord:D 7=true->D 6=true
theorem PI.quiet {w g bx B C v l b D u x} (h:PI w g bx B C v l b D u x) (i:Nat) (h6:i≠6) (h7:i≠7) (h10:i≠10) (z:Value) (hz:PT g v b i z):PI w g bx B C v l b (fun j=>if j=i then true else D j) (K3 u i z) x:=by
 have e6:(if 6=i then true else D 6)=D 6:=by rw[if_neg (Ne.symm h6)]
 have e7:(if 7=i then true else D 7)=D 7:=by rw[if_neg (Ne.symm h7)]
 have e10:(if 10=i then true else D 10)=D 10:=by rw[if_neg (Ne.symm h10)]
 have u6:K3 u i z 6=u 6:=by simp[K3,Ne.symm h6]
 have u7:K3 u i z 7=u 7:=by simp[K3,Ne.symm h7]
 refine ⟨fun j hj=>?_,fun hd=>h.blk (e10▸hd),h.box,fun a c=>by rw[u6];exact h.tmp (e6▸a) (e7▸c),fun c=>h.old (e7▸c),fun c=>by rw[u7];exact h.new (e7▸c),fun c=>by rw[u7];exact h.fin (e10▸c),fun c=>?_,fun c=>?_⟩
 ·by_cases e:j=i
  ·subst e;simp only[K3,if_pos];exact hz
  ·simp only[K3,if_neg e] at hj⊢;exact h.val j hj
 ·obtain ⟨a4,a6,a7⟩:=h.last (e10▸c)
  show (if 4=i then true else D 4)=true/\(if 6=i then true else D 6)=true/\(if 7=i then true else D 7)=true
  rw[a4,a6,a7]
  refine ⟨?_,?_,?_⟩<;>split<;>rfl
 ·show (if 6=i then true else D 6)=true
  rw[e6];exact h.ord (e7▸c)
theorem b2i (B g bx:Nat) (C:Nat->Value) (v:Value) (l:List UInt8) (b:UInt8) (w:World) (hB:n6 w g 232 259 C) (hC:C 258=v) (hown:w.ownsRow B 5 1 v l.length (t4 l)) (hbox:w.heap[bx]? = some (.cells #[.pointer (some ⟨g,0,none⟩)] 202 (0,0))) (hl:l.length<=100000000) (hBw:B<=w.heap.size) :
  Calls prog 188 #[.int .u8 (b.toNat:Int),.pointer (some ⟨bx,0,none⟩)] w fun e w'=>e=.returned (.tuple #[])/\∃v',n6 w' g 232 259 (H6 C 258 v')/\w'.ownsRow B 5 1 v' (l.length+1) (t4 (l++[b]))/\Ae v.ownBlock v'.ownBlock w/\Chg g v.ownBlock w w':=by
 obtain ⟨so,sc,rfl⟩:=G6 hown
 obtain ⟨i0,hi,hz0,hz1,hz2⟩:=info_parts eJ
 go_enter func188,ntmps188
 refine oA ?lit ?hlit rfl (by kernel_rfl) (by kernel_rfl) (by kernel_rfl) (PI w g bx B C (.slice so l.length sc) l b) ?_ ?_ ?_
 case hlit=>
  intro u
  simp only[fill,Act.put,Nat.zero_add,Nat.reduceAdd,List.setIfInBounds_toArray,List.set_cons_zero,List.set_cons_succ]
  rfl
 ·intro u
  exact ⟨fun i h=>by simp at h,fun _=>hB,hbox,fun h _=>by simp at h,fun _=>⟨hown,n7.drew w⟩,fun h=>by simp at h,fun h=>by simp at h,fun h=>by simp at h,fun h=>by simp at h⟩
 ·intro D u x i o ho hD hd hI
  have hi':i<11:=(List.getElem?_eq_some_iff.1 ho).1
  have cb:x.cell? ⟨bx,0,none⟩=some (.pointer (some ⟨g,0,none⟩)):=by unfold World.cell?;rw[hI.box];rfl
  obtain rfl|rfl|rfl|rfl|rfl|rfl|rfl|rfl|rfl|rfl|rfl:i=0\/i=1\/i=2\/i=3\/i=4\/i=5\/i=6\/i=7\/i=8\/i=9\/i=10:=by omega
  ·simp only[List.getElem?_cons_zero,Option.some.injEq] at ho;subst ho
   exact V9 (rI _ _ rfl rfl cb) (hI.quiet 0 (by omega) (by omega) (by omega) _ rfl)
  ·simp only[List.getElem?_cons_succ,List.getElem?_cons_zero,Option.some.injEq] at ho;subst ho
   exact V9 (rI _ _ rfl rfl cb) (hI.quiet 1 (by omega) (by omega) (by omega) _ rfl)
  ·simp only[List.getElem?_cons_succ,List.getElem?_cons_zero,Option.some.injEq] at ho;subst ho
   have e1:u 1=.pointer (some ⟨g,0,none⟩):=hI.val 1 (hd 1 (by kernel_rfl))
   exact V9 (Z7 _ rfl e1) (hI.quiet 2 (by omega) (by omega) (by omega) _ rfl)
  ·simp only[List.getElem?_cons_succ,List.getElem?_cons_zero,Option.some.injEq] at ho;subst ho
   have e1:u 2=.pointer (some ⟨g,0,none⟩):=hI.val 2 (hd 2 (by kernel_rfl))
   exact V9 (tC g rfl e1) (hI.quiet 3 (by omega) (by omega) (by omega) _ rfl)
  ·simp only[List.getElem?_cons_succ,List.getElem?_cons_zero,Option.some.injEq] at ho;subst ho
   have e1:u 3=.pointer (some ⟨g,258,none⟩):=hI.val 3 (hd 3 (by kernel_rfl))
   have hn:D 10=false:=by
    cases h:D 10 with
    |false=>rfl
    |true=>have:=(hI.last h).1;rw[hD] at this;cases this
   have hc:=(hI.blk hn).cell 258 (by omega)
   rw[hC] at hc
   exact V9 (qW _ _ _ _ rfl e1 hc) (hI.quiet 4 (by omega) (by omega) (by omega) _ rfl)
  ·simp only[List.getElem?_cons_succ,List.getElem?_cons_zero,Option.some.injEq] at ho;subst ho
   exact V9 (jH _ rfl rfl) (hI.quiet 5 (by omega) (by omega) (by omega) _ rfl)
  ·simp only[List.getElem?_cons_succ,List.getElem?_cons_zero,Option.some.injEq] at ho;subst ho
   have e1:u 5=.int .u8 (b.toNat:Int):=hI.val 5 (hd 5 (by kernel_rfl))
   have hn:D 10=false:=by
    cases h:D 10 with
    |false=>rfl
    |true=>have:=(hI.last h).2.1;rw[hD] at this;cases this
   have h7:D 7=false:=by
    cases h:D 7 with
    |false=>rfl
    |true=>have:=hI.ord h;rw[hD] at this;cases this
   obtain ⟨o1,o2⟩:=hI.old h7
   refine V9 (Xr _ rfl e1) ⟨fun j hj=>?_,fun _=>(hI.blk hn).grow (n7.alloc _ _),(n7.alloc _ _).block hI.box,fun _ _=>⟨x.heap.size,by simp[K3],heap_alloc_new _ _⟩,fun _=>⟨o1.alloc _,o2.a _⟩,fun c=>?_,fun c=>?_,fun c=>?_,fun _=>rfl⟩
   ·by_cases e:j=6
    ·subst e;exact trivial
    ·simp only[K3,if_neg e] at hj⊢;exact hI.val j hj
   ·simp[h7] at c
   ·simp[hn] at c
   ·simp[hn] at c
  ·simp only[List.getElem?_cons_succ,List.getElem?_cons_zero,Option.some.injEq] at ho;subst ho
   have e4:u 4=.slice so l.length sc:=hI.val 4 (hd 4 (by kernel_rfl))
   obtain ⟨k,e6,hk⟩:=hI.tmp (hd 6 (by kernel_rfl)) hD
   obtain ⟨o1,o2⟩:=hI.old hD
   have hn:D 10=false:=by
    cases h:D 10 with
    |false=>rfl
    |true=>have:=(hI.last h).2.2;rw[hD] at this;cases this
   obtain ⟨v',x',hrun,r1,r2,r3,r4⟩:=run_append_own_at (P:=prog) x B 57 57 5 i0 (.int .u8 0) 1 1 underlying57 hi hz0 hz1 hz2 rfl (by decide) (.slice so l.length sc) l.length (t4 l) o1 ⟨k,0,none⟩ 1 1 [.int .u8 (b.toNat:Int)] rfl
    (by
     intro j y hj
     obtain rfl:j=0:=by have:=(List.getElem?_eq_some_iff.1 hj).1;simpa using this
     simp at hj;subst hj
     show x.cell? ⟨k,0,none⟩=_
     unfold World.cell?;rw[hk];rfl)
    (by intro y hy;simp at hy;subst hy;rfl) (by simp[maxLen];omega) (by omega) (Nat.le_trans hBw (n7.size o2))
   have hbv:t4 l++[.int .u8 (b.toNat:Int)]=t4 (l++[b]):=by rw[C3];rfl
   rw[hbv] at r1
   have hblk:=hI.blk hn
   refine V9 (rZ _ _ rfl e4 e6 hrun) ⟨fun j hj=>?_,fun _=>?_,?_,fun _ c=>?_,fun c=>?_,fun _=>⟨by simpa [K3] using r1,?_,?_⟩,fun c=>?_,fun c=>?_,fun _=>?_⟩
   ·by_cases e:j=7
    ·subst e;exact trivial
    ·simp only[K3,if_neg e] at hj⊢;exact hI.val j hj
   ·have:=r2.block g hblk.lt (H9 o1 hblk (by decide))
    unfold n6 at hblk⊢;rw[this];exact hblk
   ·rw[r2.block bx (Array.getElem?_eq_some_iff.1 hI.box).1 (H9 o1 hI.box (by decide))];exact hI.box
   ·simp at c
   ·simp at c
   ·have e:K3 u 7 v' 7=v':=by simp[K3]
    rw[e]
    rcases r4 with r4|r4
    ·exact .inl r4
    ·exact .inr ⟨_,r4,n7.size o2⟩
   ·exact (Chg.of_grow o2).trans (.inl rfl) ⟨r2.os,r2.tape,r2.output,r2.size,fun j hj _ hr=>r2.block j hj hr⟩
   ·simp[hn] at c
   ·simp[hn] at c
   ·exact hd 6 (by kernel_rfl)
  ·simp only[List.getElem?_cons_succ,List.getElem?_cons_zero,Option.some.injEq] at ho;subst ho
   have e1:u 0=.pointer (some ⟨g,0,none⟩):=hI.val 0 (hd 0 (by kernel_rfl))
   exact V9 (Z7 _ rfl e1) (hI.quiet 8 (by omega) (by omega) (by omega) _ rfl)
  ·simp only[List.getElem?_cons_succ,List.getElem?_cons_zero,Option.some.injEq] at ho;subst ho
   have e1:u 8=.pointer (some ⟨g,0,none⟩):=hI.val 8 (hd 8 (by kernel_rfl))
   exact V9 (tC g rfl e1) (hI.quiet 9 (by omega) (by omega) (by omega) _ rfl)
  ·simp only[List.getElem?_cons_succ,List.getElem?_cons_zero,Option.some.injEq] at ho;subst ho
   have e9:u 9=.pointer (some ⟨g,258,none⟩):=hI.val 9 (hd 9 (by kernel_rfl))
   have h7:=hd 7 (by kernel_rfl)
   obtain ⟨n1,n2,n3⟩:=hI.new h7
   obtain ⟨s7,c7,e7⟩:=G6 n1
   have hblk:=hI.blk hD
   have hgb:g≠bx:=by
    intro e
    have:=hI.box
    rw[<-e,hblk] at this
    injection this with this
    injection this with _ this _
    exact absurd this (by decide)
   refine Ud (b2p g 258 s7 (l.length+1) c7 rfl e9 e7 _ (hblk.cell 258 (by omega)) (hblk.free 258)) ⟨fun j hj=>?_,fun c=>?_,?_,fun _ c=>?_,fun c=>?_,fun _=>⟨?_,?_,?_⟩,fun _=>?_,fun _=>?_,fun _=>?_⟩
   ·by_cases e:j=10
    ·subst e;exact trivial
    ·simp only[K3,if_neg e] at hj⊢;exact hI.val j hj
   ·simp at c
   ·rw[heap_setCell_other _ _ _ _ (by simpa using Ne.symm hgb)];exact hI.box
   ·simp[h7] at c
   ·simp[h7] at c
   ·have e:K3 u 10 undef 7=u 7:=by simp[K3]
    rw[e]
    refine n1.kept (row:=some g) ⟨rfl,rfl,rfl,by simp[World.setCell],fun j hj hr=>heap_setCell_other _ _ _ _ (by intro e';exact hr (by rw[e']))⟩ (.inr (H9 n1 hblk (by decide)).symm)
   ·have e:K3 u 10 undef 7=u 7:=by simp[K3]
    rw[e];exact n2
   ·exact ⟨n3.os,n3.tape,n3.output,by simp[World.setCell];exact n3.size,fun j hj hg hr=>by rw[heap_setCell_other _ _ _ _ (by simpa using hg)];exact n3.block j hj hg hr⟩
   ·have e:K3 u 10 undef 7=u 7:=by simp[K3]
    rw[e,e7];exact hblk.set 258 _
   ·show (if 4=10 then true else D 4)=true/\(if 6=10 then true else D 6)=true/\(if 7=10 then true else D 7)=true
    rw[if_neg (by omega),if_neg (by omega),if_neg (by omega)]
    exact ⟨hd 4 (by kernel_rfl),hd 6 (by kernel_rfl),hd 7 (by kernel_rfl)⟩
   ·show (if 6=10 then true else D 6)=true
    rw[if_neg (by omega)];exact hd 6 (by kernel_rfl)
 ·intro D u x hD hI
  obtain ⟨n1,n2,n3⟩:=hI.new (hD 7 (by decide))
  have n4:=hI.fin (hD 10 (by decide))
  go_wp2
  exact bodyPost_end (results_none rfl _ _ _) rfl ⟨rfl,_,n4,n1,n2,n3⟩
end
section
structure CbW (g bx L:Nat) (Q:List UInt8->(Nat->Value)->World->Prop):Prop where
 set:∀l X Y w i v,i<258->n6 w g 232 259 Y->Q l X w->Q l X (w.setCell ⟨g,i,none⟩ v)
 drewN:∀l X w n,Q l X w->Q l X (w.drewN n)
 call:∀l X w p lo en b,n6 w g 232 259 (cc p lo en X)->Q l X w->l.length<=L->Calls prog 188 #[.int .u8 (b.toNat:Int),.pointer (some ⟨bx,0,none⟩)] w fun e w'=>e=.returned (.tuple #[])/\∃X',n6 w' g 232 259 (cc p lo en X')/\Q (l++[b]) X' w'
theorem w16 (n:Int) (h0 : -32768<=n) (h1:n<=32767):IntKind.i16.wrap n=n:=by
 show (if (true&&decide (n % 65536>=32768))=true then n % 65536-65536 else n % 65536)=n
 by_cases h:n % 65536>=32768
 ·rw[if_pos (by simp[h])];omega
 ·rw[if_neg (by simp[h])];omega
theorem Qt {g bx L:Nat} {Q:List UInt8->(Nat->Value)->World->Prop} (HC:Hid (CbW g bx L Q)) (s:M.St) (hs:M.Ok s) (c bit:Int) (X:Nat->Value) (l:List UInt8) (w:World)
  (hB:n6 w g 232 259 (cc s.p s.lo (4294967295-s.hi) X)) (hQ:Q l X w) (hl:l.length+4<=L) :
  Calls prog 187 #[.pointer (some ⟨g,0,none⟩),.int .i64 c,.int .i64 bit,.func (.func 188) #[] #[.pointer (some ⟨bx,0,none⟩)]] w fun e w'=>e=.returned (.tuple #[])/\
   ∃X',n6 w' g 232 259 (cc (M.nxt s (cx c) (bit % 2)).p (M.nxt s (cx c) (bit % 2)).lo (4294967295-(M.nxt s (cx c) (bit % 2)).hi) X')/\Q (l++M.M2 s (cx c) (bit % 2)) X' w':=by
 have hk:=oE c
 have c0:=hB.cell (cx c) (by omega)
 rw[Dq _ hk] at c0
 have HM:=Lib.hid (uE g s hs c w c0 (by rw[hB.cell 256 (by omega),dI]) (by rw[hB.cell 257 (by omega),fI]))
 obtain ⟨p1,p2⟩:=hs.p (cx c)
 have HI:=Lib.hid (M.iv1 hs (cx c) (bit % 2))
 have HX:=Lib.hid (show M.nxt s (cx c) (bit % 2)=⟨M.put s.p (cx c) (M.np (s.p (cx c)) (bit % 2)),(M.N5 4 (M.jY s (cx c) (bit % 2)) (M.jF s (cx c) (bit % 2))).2.1,(M.N5 4 (M.jY s (cx c) (bit % 2)) (M.jF s (cx c) (bit % 2))).2.2⟩ from rfl)
 have HO:=Lib.hid (show M.M2 s (cx c) (bit % 2)=(M.N5 4 (M.jY s (cx c) (bit % 2)) (M.jF s (cx c) (bit % 2))).1 from rfl)
 have hmd:=M.Ds hs (cx c)
 have hl0:=hs.lo
 have hh1:=hs.hi
 have ha:=eX c
 rw[<-oS] at ha
 have hb:=zH bit
 go_enter func187,ntmps187
 go_wp2_with fail
 refine HM.out.mono ?_
 rintro e x ⟨rfl,nn,rfl⟩
 have HB:=Lib.hid (show n6 (w.drewN nn) g 232 259 (cc s.p s.lo (4294967295-s.hi) X) from hB)
 have HQ:=Lib.hid (HC.out.drewN _ _ _ nn hQ)
 clear HM hB hQ hs
 replace c0:(w.drewN nn).cell? ⟨g,cx c,none⟩=some (.int .i16 (s.p (cx c)-2048)):=c0
 generalize w.drewN nn=W at *
 go_upto_if 28 with fail
 have m0:0<=M.md s (cx c):=by omega
 have hn:=fJ (M.md s (cx c)) m0 (by omega)
 have m1:IntKind.u32.wrap (M.md s (cx c)+1)=M.md s (cx c)+1:=Ft _ (by omega) (by omega)
 have c6:W.cell? ⟨g,256,none⟩=some (.int .u32 s.lo):=by rw[HB.out.cell 256 (by omega),dI]
 have c7:W.cell? ⟨g,257,none⟩=some (.int .u32 (4294967295-s.hi)):=by rw[HB.out.cell 257 (by omega),fI]
 have f6:=HB.out.free 256
 have f7:=HB.out.free 257
 go_cut [10] (fun s10 wx=>s10=.int .i64 (M.np (s.p (cx c)) (bit % 2))/\n6 wx g 232 259 (cc s.p (M.jY s (cx c) (bit % 2)) (4294967295-M.jF s (cx c) (bit % 2)) X)/\Q l X wx)
 case first=>
  by_cases hbit:bit % 2=1
  ·rw[hbit]
   go_wp2
   go_meet
   refine ⟨?_,?_,HC.out.set _ _ _ _ _ _ (by omega) HB.out HQ.out⟩
   ·unfold M.np;rw[if_pos hbit]
   ·have:=HB.out.set 257 (.int .u32 (4294967295-M.md s (cx c)))
    rw[cV] at this
    rw[show M.jY s (cx c) (bit % 2)=s.lo from if_pos hbit,show M.jF s (cx c) (bit % 2)=M.md s (cx c) from if_pos hbit]
    exact this
  ·obtain hbit:bit % 2=0:=by omega
   rw[hbit]
   go_wp2
   go_meet
   refine ⟨?_,?_,HC.out.set _ _ _ _ _ _ (by omega) HB.out HQ.out⟩
   ·unfold M.np;rw[if_neg (by omega)]
   ·have:=HB.out.set 256 (.int .u32 (M.md s (cx c)+1))
    rw[cI] at this
    rw[show M.jY s (cx c) (bit % 2)=M.md s (cx c)+1 from if_neg (by omega),show M.jF s (cx c) (bit % 2)=s.hi from if_neg (by omega)]
    exact this
 case rest=>
 clear HB HQ hn m0 m1 c6 c7 f6 f7 c0 hmd hl0 hh1 hb
 obtain ⟨rfl,hB,hQ⟩:=hcut
 obtain ⟨W1,hW1⟩:∃W1:World,W1=wc:=⟨_,rfl⟩
 subst hW1
 have n0:=M.Es ⟨p1,p2⟩ (bit % 2)
 have c0:=hB.cell (cx c) (by omega)
 rw[Dq _ hk] at c0
 have f0:=hB.free (cx c)
 have HB:=Lib.hid (wJ (cx c) hk _▸hB.set (cx c) (.int .i16 (M.np (s.p (cx c)) (bit % 2)-2048)))
 have HQ:=Lib.hid (HC.out.set _ _ _ _ (cx c) (.int .i16 (M.np (s.p (cx c)) (bit % 2)-2048)) (by omega) hB hQ)
 clear hB hQ
 have hw1:IntKind.i16.wrap (M.np (s.p (cx c)) (bit % 2)-2048)=M.np (s.p (cx c)) (bit % 2)-2048:=w16 _ (by omega) (by omega)
 generalize M.np (s.p (cx c)) (bit % 2)=np at *
 generalize M.jY s (cx c) (bit % 2)=lo0 at *
 generalize M.jF s (cx c) (bit % 2)=hi0 at *
 clear p1 p2
 go_upto_block 1 with fail
 go_loopg [11] 4 (fun k s11 wr=>∃(l':List UInt8) (lo hi:Int) (X':Nat->Value),Hid (M.Iv k lo hi/\l'++(M.N5 k lo hi).1=l++(M.N5 4 lo0 hi0).1/\(M.N5 k lo hi).2=(M.N5 4 lo0 hi0).2/\l'.length+k<=l.length+4/\n6 wr g 232 259 (cc (M.put s.p (cx c) np) lo (4294967295-hi) X')/\Q l' X' wr))
 case atStart=>exact ⟨l,lo0,hi0,X,Lib.hid ⟨HI.out,rfl,rfl,Nat.le_refl _,HB.out,HQ.out⟩⟩
 case round=>
  obtain ⟨l',lo,hi,X',HR⟩:=hrel
  clear HB HQ HI
  obtain ⟨i1,i2,i3,i4,i5,i6⟩:=id HR.out
  have j0:=i1.lo
  have j1:=i1.le
  have j2:=i1.hi
  have c6:wr.cell? ⟨g,256,none⟩=some (.int .u32 lo):=by rw[i5.cell 256 (by omega),dI]
  have c7:wr.cell? ⟨g,257,none⟩=some (.int .u32 (4294967295-hi)):=by rw[i5.cell 257 (by omega),fI]
  have HI:=Lib.hid (mU g hi (by omega) j2)
  have f6:=i5.free 256
  have f7:=i5.free 257
  clear i1 i2 i3 i4 i5 i6
  go_upto_region 9 with fail
  refine K2 (C:=fun x=>∃n,x=wr.drewN n) (by kernel_rfl) (by kernel_rfl) ⟨1,rfl⟩ ?_
  repeat (first
   |go_big_quiet_skip
   |(go_big_quiet_want;refine aV ?_;apply Exists.intro;refine ⟨fun x hx=>?_,?_⟩;(focus (obtain ⟨n,rfl⟩:=hx;go_simp<;>rfl));simp only[Act.put,List.setIfInBounds_toArray,List.set_cons_zero,List.set_cons_succ];go_big_quiet_on)
   |(go_big_quiet_want;refine mK 203 ?_;apply Exists.intro;refine ⟨fun x hx=>?_,?_⟩;(focus (go_simp<;>rfl));apply Exists.intro;refine ⟨fun x hx=>?_,?_⟩;(focus (obtain ⟨n,rfl⟩:=hx;exact (HI.out (wr.drewN n) c7).mono fun e w' h=>⟨h.1,n,h.2.symm⟩));simp only[Act.put,List.setIfInBounds_toArray,List.set_cons_zero,List.set_cons_succ];go_big_quiet_on))
  refine wpQuiet_nil ?_
  rintro x ⟨n,rfl⟩
  have hgn:∃W2:World,W2=wr.drewN n:=⟨_,rfl⟩
  have HR2:=Lib.hid (show M.Iv gk lo hi/\l'++(M.N5 gk lo hi).1=l++(M.N5 4 lo0 hi0).1/\(M.N5 gk lo hi).2=(M.N5 4 lo0 hi0).2/\l'.length+gk<=l.length+4/\n6 (wr.drewN n) g 232 259 (cc (M.put s.p (cx c) np) lo (4294967295-hi) X')/\Q l' X' (wr.drewN n) from
   ⟨HR.out.1,HR.out.2.1,HR.out.2.2.1,HR.out.2.2.2.1,HR.out.2.2.2.2.1,HC.out.drewN _ _ _ n HR.out.2.2.2.2.2⟩)
  replace c6:(wr.drewN n).cell? ⟨g,256,none⟩=some (.int .u32 lo):=c6
  replace c7:(wr.drewN n).cell? ⟨g,257,none⟩=some (.int .u32 (4294967295-hi)):=c7
  replace f6:(wr.drewN n).frozen? ⟨g,256,none⟩=false:=f6
  replace f7:(wr.drewN n).frozen? ⟨g,257,none⟩=false:=f7
  clear HR HI hgn
  generalize wr.drewN n=W2 at *
  cases e:(lo / 16777216==hi / 16777216) with
  |true=>
   have e':lo / 16777216=hi / 16777216:=by simpa using e
   obtain ⟨i1,i2,i3,i4,i5,i6⟩:=HR2.out
   clear HR2
   cases gk with
   |zero=>exact absurd e' i1.stop
   |succ k=>
    rw[M.mM k lo hi e'] at i2 i3
    have in':=i1.next e'
    have hby:=(M.uI j0 (by omega)).symm
    have hB3:=i5.set 256 (.int .u32 (lo*256 % 4294967296))
    rw[cI] at hB3
    have hB4:=hB3.set 257 (.int .u32 (4294967295-(hi*256+255) % 4294967296))
    rw[cV] at hB4
    have hQ4:=HC.out.set _ _ _ _ 257 (.int .u32 (4294967295-(hi*256+255) % 4294967296)) (by omega) hB3 (HC.out.set _ _ _ _ 256 (.int .u32 (lo*256 % 4294967296)) (by omega) i5 i6)
    have HK:=Lib.hid (HC.out.call l' X' _ _ _ _ (M.Tx lo) hB4 hQ4 (by omega))
    have HP:=Lib.hid (And.intro i2 (And.intro i3 (And.intro i4 in')))
    have HE:=Lib.hid e'
    rw[<-hby] at HK
    have hen:4294967295-(hi*256+255) % 4294967296=(4294967295-hi)*256 % 4294967296:=by omega
    rw[hen] at HK
    replace hen:=Lib.hid hen
    clear i1 i2 i3 i4 i5 i6 in' hB3 hB4 hQ4 hby e'
    go_wp2_with fail
    refine HK.out.mono ?_
    rintro e y ⟨rfl,X2,hB5,hQ5⟩
    go_wp2
    go_roundg k
    case measure=>omega
    case rel=>
     obtain ⟨i2,i3,i4,in'⟩:=HP.out
     exact ⟨l'++[M.Tx lo],_,_,X2,Lib.hid ⟨in',by rw[<-i2,List.append_assoc];rfl,i3,by rw[List.length_append,List.length_singleton];omega,hen.out▸hB5,hQ5⟩⟩
  |false=>
   obtain ⟨i1,i2,i3,i4,i5,i6⟩:=HR2.out
   clear HR2
   go_wp2
   have e':lo / 16777216≠hi / 16777216:=by simpa using e
   rw[M.nK _ lo hi e'] at i2 i3
   refine bodyPost_end (results_none rfl _ _ _) rfl ⟨rfl,X',?_,?_⟩
   ·rw[HX.out]
    show n6 _ _ _ _ (cc _ (M.N5 4 _ _).2.1 (_-(M.N5 4 _ _).2.2) _)
    rw[<-i3];exact i5
   ·rw[HO.out,<-i2];simpa using i6
end
section
theorem Wc {x:World} {B g:Nat} {Y:Nat->Value} {v:Value} {n:Nat} {xs:List Value} (h:x.ownsRow B 5 1 v n xs) (hb:n6 x g 232 259 Y) (i:Nat) (u:Value):(x.setCell ⟨g,i,none⟩ u).ownsRow B 5 1 v n xs:=
 h.kept (row:=some g) ⟨rfl,rfl,rfl,by simp[World.setCell],fun j hj hr=>heap_setCell_other _ _ _ _ (by intro e';exact hr (by rw[e']))⟩ (.inr (H9 h hb (by decide)).symm)
theorem Chg.set {g row x y} (h:Chg g row x y) (i:Nat) (u:Value):Chg g row x (y.setCell ⟨g,i,none⟩ u):=
 ⟨h.os,h.tape,h.output,by simp[World.setCell];exact h.size,fun j hj hg hr=>by rw[heap_setCell_other _ _ _ _ (by simpa using hg)];exact h.block j hj hg hr⟩
theorem jC {x:World} {g bx t t' n:Nat} {Y:Nat->Value} {c:Array Value} {fr} (h:n6 x g t n Y) (k:x.heap[bx]? = some (.cells c t' fr)) (ht:t≠t'):bx≠g:=by
 intro e
 subst e
 unfold n6 at h
 rw[h] at k
 injection k with k
 injection k with _ k _
 exact ht k
structure WQ (B g bx:Nat) (ro:Option Nat) (w1:World) (l:List UInt8) (X:Nat->Value) (x:World):Prop where
 bd:B<=x.heap.size
 own:x.ownsRow B 5 1 (X 258) l.length (t4 l)
 nxt:Ae ro (X 258).ownBlock w1
 chg:Chg g ro w1 x
 box:x.heap[bx]? = some (.cells #[.pointer (some ⟨g,0,none⟩)] 202 (0,0))
theorem c4h (B g bx:Nat) (ro:Option Nat) (w1:World):CbW g bx 100000000 (WQ B g bx ro w1) where
 set:=fun l X Y w i v hi hb h=>⟨by simp[World.setCell];exact h.bd,Wc h.own hb i v,h.nxt,h.chg.set i v,by
  rw[heap_setCell_other _ _ _ _ (by simpa using jC hb h.box (by decide))];exact h.box⟩
 drewN:=fun l X w n h=>⟨h.bd,h.own,h.nxt,⟨h.chg.os,h.chg.tape,h.chg.output,h.chg.size,h.chg.block⟩,h.box⟩
 call:=fun l X w p lo en b hb h hl=>by
  refine (b2i B g bx (cc p lo en X) (X 258) l b w hb (Hy 258 (by omega)) h.own h.box hl h.bd).mono ?_
  rintro e w' ⟨rfl,v',h1,h2,h3,h4⟩
  rw[bC 258 (by omega)] at h1
  have e2:H6 X 258 v' 258=v':=by simp[H6]
  refine ⟨rfl,H6 X 258 v',h1,⟨Nat.le_trans h.bd h4.size,by rw[e2,List.length_append];exact h2,by rw[e2];exact h.nxt.trans h.chg.size h3,h.chg.trans h.nxt h4,?_⟩⟩
  rw[h4.block bx (Array.getElem?_eq_some_iff.1 h.box).1 (jC hb h.box (by decide)) (H9 h.own h.box (by decide))]
  exact h.box
theorem c2l (B g:Nat) (s:M.St) (hs:M.Ok s) (c bit:Int) (X:Nat->Value) (l:List UInt8) (w:World)
  (hB:n6 w g 232 259 (cc s.p s.lo (4294967295-s.hi) X)) (hown:w.ownsRow B 5 1 (X 258) l.length (t4 l)) (hBw:B<=w.heap.size) (hl:l.length+4<=100000000) :
  Calls prog 156 #[.pointer (some ⟨g,0,none⟩),.int .i64 c,.int .i64 bit] w fun e w'=>e=.returned (.tuple #[])/\
   ∃X',n6 w' g 232 259 (cc (M.nxt s (cx c) (bit % 2)).p (M.nxt s (cx c) (bit % 2)).lo (4294967295-(M.nxt s (cx c) (bit % 2)).hi) X')/\
    w'.ownsRow B 5 1 (X' 258) (l++M.M2 s (cx c) (bit % 2)).length (t4 (l++M.M2 s (cx c) (bit % 2)))/\Ae (X 258).ownBlock (X' 258).ownBlock w/\Chg g (X 258).ownBlock w w':=by
 have h1:=hB.grow (n7.alloc w (.cells #[.pointer (some ⟨g,0,none⟩)] 202))
 have h2:WQ B g w.heap.size (X 258).ownBlock (w.alloc (.cells #[.pointer (some ⟨g,0,none⟩)] 202)) l X (w.alloc (.cells #[.pointer (some ⟨g,0,none⟩)] 202)):=
  ⟨Nat.le_trans hBw (n7.size (n7.alloc _ _)),hown.alloc _,.inl rfl,Chg.refl _ _ _,heap_alloc_new _ _⟩
 have HN:=Lib.hid (Qt (Lib.hid (c4h B g w.heap.size (X 258).ownBlock (w.alloc (.cells #[.pointer (some ⟨g,0,none⟩)] 202)))) s hs c bit X l _ h1 h2 hl)
 clear h1 h2 hB hown
 go_enter func156,ntmps156
 go_wp2_with fail
 refine HN.out.mono ?_
 rintro e x ⟨rfl,X',hB,hQ⟩
 go_wp2
 refine bodyPost_end (results_none rfl _ _ _) rfl ⟨rfl,X',hB,hQ.own,?_,?_⟩
 ·rcases hQ.nxt with h|⟨k,h,hk⟩
  ·exact .inl h
  ·exact .inr ⟨k,h,Nat.le_trans (n7.size (n7.alloc _ _)) hk⟩
 ·exact (Chg.of_grow (n7.alloc _ _)).trans (.inl rfl) hQ.chg
end
end Cod
end
section
namespace Cod
section
theorem fH {w x:World} {B:Nat} {v:Value} {n:Nat} {xs:List Value} (h:w.ownsRow B 5 1 v n xs) (hg:n7 w x):x.ownsRow B 5 1 v n xs:=by
 obtain ⟨h1,h2⟩:=h
 refine ⟨h1,h2.imp id ?_⟩
 rintro ⟨g,cap,cur,e1,e2,e3,e4⟩
 exact ⟨g,cap,cur,e1,e2,hg.block e3,e4⟩
section
variable {o:Oper} {ρ:Operand->Value} {x:World} {y:Operand}
theorem Wx (v:Value) (ho:o.op=.assign y) (hy:ρ y=v):(execOp ρ o).run prog x=.ok (.value v) x:=by
 unfold execOp;rw[ho];simp only[hy];go_simp
theorem lR (t:TypeId) (f k:Nat) (g i:Nat) (ho:o.op=.fieldAddr 232 y 0) (hy:ρ y=.pointer (some ⟨g,0,none⟩)) (_:True=True):(execOp ρ o).run prog x=.ok (.value (.pointer (some ⟨g,0,none⟩))) x:=by
 unfold execOp;rw[ho];simp only[hy];go_simp
theorem lT (g:Nat) (ho:o.op=.fieldAddr 230 y 1) (hy:ρ y=.pointer (some ⟨g,0,none⟩)):(execOp ρ o).run prog x=.ok (.value (.pointer (some ⟨g,256,none⟩))) x:=by
 unfold execOp;rw[ho];simp only[hy];go_simp
theorem eS (a:Addr) (n:Int) (ho:o.op=.load 110 y) (hy:ρ y=.pointer (some a)) (hc:x.cell? a=some (.int .u32 n)):(execOp ρ o).run prog x=.ok (.value (.int .u32 n)) x:=by
 unfold execOp;rw[ho];simp only[hy];go_simp
theorem Hs (n:Int) (h0:0<=n) {t:TypeId} (ho:o.op=.binOp .shr 110 y (.const (.int .u64 24)) t) (hy:ρ y=.int .u32 n) (hk:∀v,ρ (.const v)=v:=by intro v;rfl):(execOp ρ o).run prog x=.ok (.value (.int .u32 (n / 16777216))) x:=by
 unfold execOp;rw[ho];simp only[hy,hk];go_simp
theorem Hc (n:Int) (h0:0<=n) {t:TypeId} (ho:o.op=.binOp .shr 110 y (.const (.int .u64 16)) t) (hy:ρ y=.int .u32 n) (hk:∀v,ρ (.const v)=v:=by intro v;rfl):(execOp ρ o).run prog x=.ok (.value (.int .u32 (n / 65536))) x:=by
 unfold execOp;rw[ho];simp only[hy,hk];go_simp
theorem Mv (n:Int) (h0:0<=n) {t:TypeId} (ho:o.op=.binOp .shr 110 y (.const (.int .u64 8)) t) (hy:ρ y=.int .u32 n) (hk:∀v,ρ (.const v)=v:=by intro v;rfl):(execOp ρ o).run prog x=.ok (.value (.int .u32 (n / 256))) x:=by
 unfold execOp;rw[ho];simp only[hy,hk];go_simp
theorem Ii (n:Int) (h0:0<=n):IntKind.u8.wrap n=((UInt8.ofNat n.toNat).toNat:Int):=by
 rw[M.O1,IntKind.wrap_u8];omega
theorem lF (n:Int) (h0:0<=n) (h1:n<=4294967295) (ho:o.op=.convert 110 5 y) (hy:ρ y=.int .u32 n):(execOp ρ o).run prog x=.ok (.value (.int .u8 ((UInt8.ofNat n.toNat).toNat:Int))) x:=by
 rw[<-Ii n h0]
 unfold execOp;rw[ho];simp only[hy];go_simp
theorem Vl (B:Nat) (so:Option Addr) (sc:Nat) (l:List UInt8) (ho:o.op=.convert 57 9 y) (hy:ρ y=.slice so l.length sc) (h:x.ownsRow B 5 1 (.slice so l.length sc) l.length (t4 l)):(execOp ρ o).run prog x=.ok (.value (.string ⟨l.toArray⟩)) x:=by
 have hc:=U1 (P:=prog) x 57 9 5 underlying57 underlying5 underlying9 B _ _ l h
 unfold execOp;rw[ho];simp only[hy]
 simp[hc,Result.andThen]
theorem a3b (l:List UInt8) (h4:l.length=4) (b:Nat) (ho:o.op=.convert 57 9 y) (hy:ρ y=.slice (some ⟨b,0,none⟩) 4 4) (hb:x.heap[b]? = some (.cells (t4 l).toArray 5 (0,0))):(execOp ρ o).run prog x=.ok (.value (.string ⟨l.toArray⟩)) x:=by
 have h:=Y1 (P:=prog) x 57 9 5 underlying57 underlying5 underlying9 b 5 (0,0) _ hb 0 4 4 l h4 (fun j hj=>by
  simp[t4,hj])
 unfold execOp;rw[ho];simp only[hy]
 simp[h,Result.andThen]
theorem Yo (a b c d:Int) {y1 y2 y3 y4:Operand} (ho:o.op=.buildSlice 57 4 #[(0,y1),(1,y2),(2,y3),(3,y4)]) (h1:ρ y1=.int .u8 a) (h2:ρ y2=.int .u8 b) (h3:ρ y3=.int .u8 c) (h4:ρ y4=.int .u8 d):(execOp ρ o).run prog x=.ok (.value (.slice (some ⟨x.heap.size,0,none⟩) 4 4)) (x.alloc (.cells #[.int .u8 a,.int .u8 b,.int .u8 c,.int .u8 d] 5)):=by
 unfold execOp;rw[ho];simp[h1,h2,h3,h4];go_simp
theorem Ts {y1 y2:Operand} (s t:ByteArray) (ho:o.op=.binOp .add 9 y1 y2 9) (h1:ρ y1=.string s) (h2:ρ y2=.string t) (hl:s.size+t.size<=1000000000):(execOp ρ o).run prog x=.ok (.value (.string (s++t))) x:=by
 have hm:s.size+t.size<=9223372036854775807:=by omega
 unfold execOp;rw[ho];simp only[h1,h2];go_simp
end
def BT (g:Nat) (lo:Int) (l:List UInt8) (so:Option Addr) (sc:Nat) (i:Nat) (v:Value) (x:World):Prop:=
 match i with
 |0=>v=(.pointer (some ⟨g,0,none⟩))
 |1=>v=(.pointer (some ⟨g,0,none⟩))
 |2=>v=(.pointer (some ⟨g,258,none⟩))
 |3=>v=(.slice so l.length sc)
 |4=>v=(.string ⟨l.toArray⟩)
 |5=>v=(.pointer (some ⟨g,0,none⟩))
 |6=>v=(.pointer (some ⟨g,0,none⟩))
 |7=>v=(.pointer (some ⟨g,0,none⟩))
 |8=>v=(.pointer (some ⟨g,256,none⟩))
 |9=>v=(.int .u32 lo)
 |10=>v=(.int .u32 (lo / 16777216))
 |11=>v=(.int .u8 ((UInt8.ofNat (lo / 16777216).toNat).toNat:Int))
 |12=>v=(.pointer (some ⟨g,0,none⟩))
 |13=>v=(.pointer (some ⟨g,0,none⟩))
 |14=>v=(.pointer (some ⟨g,0,none⟩))
 |15=>v=(.pointer (some ⟨g,256,none⟩))
 |16=>v=(.int .u32 lo)
 |17=>v=(.int .u32 (lo / 65536))
 |18=>v=(.int .u8 ((UInt8.ofNat (lo / 65536).toNat).toNat:Int))
 |19=>v=(.pointer (some ⟨g,0,none⟩))
 |20=>v=(.pointer (some ⟨g,0,none⟩))
 |21=>v=(.pointer (some ⟨g,0,none⟩))
 |22=>v=(.pointer (some ⟨g,256,none⟩))
 |23=>v=(.int .u32 lo)
 |24=>v=(.int .u32 (lo / 256))
 |25=>v=(.int .u8 ((UInt8.ofNat (lo / 256).toNat).toNat:Int))
 |26=>v=(.pointer (some ⟨g,0,none⟩))
 |27=>v=(.pointer (some ⟨g,0,none⟩))
 |28=>v=(.pointer (some ⟨g,0,none⟩))
 |29=>v=(.pointer (some ⟨g,256,none⟩))
 |30=>v=(.int .u32 lo)
 |31=>v=(.int .u8 ((UInt8.ofNat lo.toNat).toNat:Int))
 |32=>∃b,v=.slice (some ⟨b,0,none⟩) 4 4/\x.heap[b]? = some (.cells (t4 (M.Ag lo)).toArray 5 (0,0))
 |33=>v=(.string ⟨(M.Ag lo).toArray⟩)
 |34=>v=(.string (⟨l.toArray⟩++⟨(M.Ag lo).toArray⟩))
 |35=>v=(.string (⟨l.toArray⟩++⟨(M.Ag lo).toArray⟩))
 |_=>True
theorem a4g (B g:Nat) (s:M.St) (hs:M.Ok s) (X:Nat->Value) (l:List UInt8) (w:World)
  (hB:n6 w g 232 259 (cc s.p s.lo (4294967295-s.hi) X)) (hown:w.ownsRow B 5 1 (X 258) l.length (t4 l)) (hl:l.length<=100000000) :
  Calls prog 157 #[.pointer (some ⟨g,0,none⟩)] w fun e w'=>e=.returned (.string ⟨(l++M.Ag s.lo).toArray⟩)/\n7 w w':=by
 have h0:=hs.lo
 have h1:s.lo<=4294967295:=by have:=hs.le;have:=hs.hi;omega
 have c6:w.cell? ⟨g,256,none⟩=some (.int .u32 s.lo):=by rw[hB.cell 256 (by omega),dI]
 obtain ⟨so,sc,hv⟩:=G6 hown
 have c8:w.cell? ⟨g,258,none⟩=some (.slice so l.length sc):=by rw[hB.cell 258 (by omega),Hy 258 (by omega),hv]
 rw[hv] at hown
 clear hB hs
 generalize s.lo=lo at *
 have hsz:(⟨l.toArray⟩:ByteArray).size+(⟨(M.Ag lo).toArray⟩:ByteArray).size<=1000000000:=by
  show l.toArray.size+4<=_
  simp;omega
 have hres:(⟨l.toArray⟩:ByteArray)++⟨(M.Ag lo).toArray⟩=⟨(l++M.Ag lo).toArray⟩:=by
  apply ByteArray.ext;simp[ByteArray.data_append]
 go_enter func157,ntmps157
 go_upto_region 3 with fail
 refine kK ?lit ?hlit (by kernel_rfl) (by kernel_rfl) (by kernel_rfl) (by kernel_rfl) (BT g lo l so sc) ?_ ?_
 case hlit=>
  intro u
  simp only[fill,Act.put,Nat.zero_add,Nat.reduceAdd,List.setIfInBounds_toArray,List.set_cons_zero,List.set_cons_succ]
  rfl
 ·intro i o ho u x hx hd
  have hi:i<36:=(List.getElem?_eq_some_iff.1 ho).1
  replace hx:n7 w x:=hx
  obtain rfl|rfl|rfl|rfl|rfl|rfl|rfl|rfl|rfl|rfl|rfl|rfl|rfl|rfl|rfl|rfl|rfl|rfl|rfl|rfl|rfl|rfl|rfl|rfl|rfl|rfl|rfl|rfl|rfl|rfl|rfl|rfl|rfl|rfl|rfl|rfl:i=0\/i=1\/i=2\/i=3\/i=4\/i=5\/i=6\/i=7\/i=8\/i=9\/i=10\/i=11\/i=12\/i=13\/i=14\/i=15\/i=16\/i=17\/i=18\/i=19\/i=20\/i=21\/i=22\/i=23\/i=24\/i=25\/i=26\/i=27\/i=28\/i=29\/i=30\/i=31\/i=32\/i=33\/i=34\/i=35:=by omega
  ·simp only[List.getElem?_cons_zero,Option.some.injEq] at ho;subst ho
   exact z5 (jH _ rfl rfl) (n7.refl _) (Al.of rfl)
  ·simp only[List.getElem?_cons_succ,List.getElem?_cons_zero,Option.some.injEq] at ho;subst ho
   have e1:u 0=(.pointer (some ⟨g,0,none⟩)):=hd 0 (by kernel_rfl)
   exact z5 (Z7 _ rfl e1) (n7.refl _) (Al.of rfl)
  ·simp only[List.getElem?_cons_succ,List.getElem?_cons_zero,Option.some.injEq] at ho;subst ho
   have e1:u 1=(.pointer (some ⟨g,0,none⟩)):=hd 1 (by kernel_rfl)
   exact z5 (tC g rfl e1) (n7.refl _) (Al.of rfl)
  ·simp only[List.getElem?_cons_succ,List.getElem?_cons_zero,Option.some.injEq] at ho;subst ho
   have e1:u 2=(.pointer (some ⟨g,258,none⟩)):=hd 2 (by kernel_rfl)
   exact z5 (qW _ _ _ _ rfl e1 (hx.cell c8)) (n7.refl _) (Al.of rfl)
  ·simp only[List.getElem?_cons_succ,List.getElem?_cons_zero,Option.some.injEq] at ho;subst ho
   have e1:u 3=(.slice so l.length sc):=hd 3 (by kernel_rfl)
   exact z5 (Vl B so sc l rfl e1 (fH hown hx)) (n7.refl _) (Al.of rfl)
  ·simp only[List.getElem?_cons_succ,List.getElem?_cons_zero,Option.some.injEq] at ho;subst ho
   exact z5 (jH _ rfl rfl) (n7.refl _) (Al.of rfl)
  ·simp only[List.getElem?_cons_succ,List.getElem?_cons_zero,Option.some.injEq] at ho;subst ho
   have e1:u 5=(.pointer (some ⟨g,0,none⟩)):=hd 5 (by kernel_rfl)
   exact z5 (Z7 _ rfl e1) (n7.refl _) (Al.of rfl)
  ·simp only[List.getElem?_cons_succ,List.getElem?_cons_zero,Option.some.injEq] at ho;subst ho
   have e1:u 6=(.pointer (some ⟨g,0,none⟩)):=hd 6 (by kernel_rfl)
   exact z5 (lR 232 0 0 g 0 rfl e1 (by kernel_rfl)) (n7.refl _) (Al.of rfl)
  ·simp only[List.getElem?_cons_succ,List.getElem?_cons_zero,Option.some.injEq] at ho;subst ho
   have e1:u 7=(.pointer (some ⟨g,0,none⟩)):=hd 7 (by kernel_rfl)
   exact z5 (lT g rfl e1) (n7.refl _) (Al.of rfl)
  ·simp only[List.getElem?_cons_succ,List.getElem?_cons_zero,Option.some.injEq] at ho;subst ho
   have e1:u 8=(.pointer (some ⟨g,256,none⟩)):=hd 8 (by kernel_rfl)
   exact z5 (eS _ _ rfl e1 (hx.cell c6)) (n7.refl _) (Al.of rfl)
  ·simp only[List.getElem?_cons_succ,List.getElem?_cons_zero,Option.some.injEq] at ho;subst ho
   have e1:u 9=(.int .u32 lo):=hd 9 (by kernel_rfl)
   exact z5 (Hs lo h0 rfl e1) (n7.refl _) (Al.of rfl)
  ·simp only[List.getElem?_cons_succ,List.getElem?_cons_zero,Option.some.injEq] at ho;subst ho
   have e1:u 10=(.int .u32 (lo / 16777216)):=hd 10 (by kernel_rfl)
   exact z5 (lF (lo / 16777216) (by omega) (by omega) rfl e1) (n7.refl _) (Al.of rfl)
  ·simp only[List.getElem?_cons_succ,List.getElem?_cons_zero,Option.some.injEq] at ho;subst ho
   exact z5 (jH _ rfl rfl) (n7.refl _) (Al.of rfl)
  ·simp only[List.getElem?_cons_succ,List.getElem?_cons_zero,Option.some.injEq] at ho;subst ho
   have e1:u 12=(.pointer (some ⟨g,0,none⟩)):=hd 12 (by kernel_rfl)
   exact z5 (Z7 _ rfl e1) (n7.refl _) (Al.of rfl)
  ·simp only[List.getElem?_cons_succ,List.getElem?_cons_zero,Option.some.injEq] at ho;subst ho
   have e1:u 13=(.pointer (some ⟨g,0,none⟩)):=hd 13 (by kernel_rfl)
   exact z5 (lR 232 0 0 g 0 rfl e1 (by kernel_rfl)) (n7.refl _) (Al.of rfl)
  ·simp only[List.getElem?_cons_succ,List.getElem?_cons_zero,Option.some.injEq] at ho;subst ho
   have e1:u 14=(.pointer (some ⟨g,0,none⟩)):=hd 14 (by kernel_rfl)
   exact z5 (lT g rfl e1) (n7.refl _) (Al.of rfl)
  ·simp only[List.getElem?_cons_succ,List.getElem?_cons_zero,Option.some.injEq] at ho;subst ho
   have e1:u 15=(.pointer (some ⟨g,256,none⟩)):=hd 15 (by kernel_rfl)
   exact z5 (eS _ _ rfl e1 (hx.cell c6)) (n7.refl _) (Al.of rfl)
  ·simp only[List.getElem?_cons_succ,List.getElem?_cons_zero,Option.some.injEq] at ho;subst ho
   have e1:u 16=(.int .u32 lo):=hd 16 (by kernel_rfl)
   exact z5 (Hc lo h0 rfl e1) (n7.refl _) (Al.of rfl)
  ·simp only[List.getElem?_cons_succ,List.getElem?_cons_zero,Option.some.injEq] at ho;subst ho
   have e1:u 17=(.int .u32 (lo / 65536)):=hd 17 (by kernel_rfl)
   exact z5 (lF (lo / 65536) (by omega) (by omega) rfl e1) (n7.refl _) (Al.of rfl)
  ·simp only[List.getElem?_cons_succ,List.getElem?_cons_zero,Option.some.injEq] at ho;subst ho
   exact z5 (jH _ rfl rfl) (n7.refl _) (Al.of rfl)
  ·simp only[List.getElem?_cons_succ,List.getElem?_cons_zero,Option.some.injEq] at ho;subst ho
   have e1:u 19=(.pointer (some ⟨g,0,none⟩)):=hd 19 (by kernel_rfl)
   exact z5 (Z7 _ rfl e1) (n7.refl _) (Al.of rfl)
  ·simp only[List.getElem?_cons_succ,List.getElem?_cons_zero,Option.some.injEq] at ho;subst ho
   have e1:u 20=(.pointer (some ⟨g,0,none⟩)):=hd 20 (by kernel_rfl)
   exact z5 (lR 232 0 0 g 0 rfl e1 (by kernel_rfl)) (n7.refl _) (Al.of rfl)
  ·simp only[List.getElem?_cons_succ,List.getElem?_cons_zero,Option.some.injEq] at ho;subst ho
   have e1:u 21=(.pointer (some ⟨g,0,none⟩)):=hd 21 (by kernel_rfl)
   exact z5 (lT g rfl e1) (n7.refl _) (Al.of rfl)
  ·simp only[List.getElem?_cons_succ,List.getElem?_cons_zero,Option.some.injEq] at ho;subst ho
   have e1:u 22=(.pointer (some ⟨g,256,none⟩)):=hd 22 (by kernel_rfl)
   exact z5 (eS _ _ rfl e1 (hx.cell c6)) (n7.refl _) (Al.of rfl)
  ·simp only[List.getElem?_cons_succ,List.getElem?_cons_zero,Option.some.injEq] at ho;subst ho
   have e1:u 23=(.int .u32 lo):=hd 23 (by kernel_rfl)
   exact z5 (Mv lo h0 rfl e1) (n7.refl _) (Al.of rfl)
  ·simp only[List.getElem?_cons_succ,List.getElem?_cons_zero,Option.some.injEq] at ho;subst ho
   have e1:u 24=(.int .u32 (lo / 256)):=hd 24 (by kernel_rfl)
   exact z5 (lF (lo / 256) (by omega) (by omega) rfl e1) (n7.refl _) (Al.of rfl)
  ·simp only[List.getElem?_cons_succ,List.getElem?_cons_zero,Option.some.injEq] at ho;subst ho
   exact z5 (jH _ rfl rfl) (n7.refl _) (Al.of rfl)
  ·simp only[List.getElem?_cons_succ,List.getElem?_cons_zero,Option.some.injEq] at ho;subst ho
   have e1:u 26=(.pointer (some ⟨g,0,none⟩)):=hd 26 (by kernel_rfl)
   exact z5 (Z7 _ rfl e1) (n7.refl _) (Al.of rfl)
  ·simp only[List.getElem?_cons_succ,List.getElem?_cons_zero,Option.some.injEq] at ho;subst ho
   have e1:u 27=(.pointer (some ⟨g,0,none⟩)):=hd 27 (by kernel_rfl)
   exact z5 (lR 232 0 0 g 0 rfl e1 (by kernel_rfl)) (n7.refl _) (Al.of rfl)
  ·simp only[List.getElem?_cons_succ,List.getElem?_cons_zero,Option.some.injEq] at ho;subst ho
   have e1:u 28=(.pointer (some ⟨g,0,none⟩)):=hd 28 (by kernel_rfl)
   exact z5 (lT g rfl e1) (n7.refl _) (Al.of rfl)
  ·simp only[List.getElem?_cons_succ,List.getElem?_cons_zero,Option.some.injEq] at ho;subst ho
   have e1:u 29=(.pointer (some ⟨g,256,none⟩)):=hd 29 (by kernel_rfl)
   exact z5 (eS _ _ rfl e1 (hx.cell c6)) (n7.refl _) (Al.of rfl)
  ·simp only[List.getElem?_cons_succ,List.getElem?_cons_zero,Option.some.injEq] at ho;subst ho
   have e1:u 30=(.int .u32 lo):=hd 30 (by kernel_rfl)
   exact z5 (lF lo (by omega) (by omega) rfl e1) (n7.refl _) (Al.of rfl)
  ·simp only[List.getElem?_cons_succ,List.getElem?_cons_zero,Option.some.injEq] at ho;subst ho
   have e1:u 11=(.int .u8 ((UInt8.ofNat (lo / 16777216).toNat).toNat:Int)):=hd 11 (by kernel_rfl)
   have e2:u 18=(.int .u8 ((UInt8.ofNat (lo / 65536).toNat).toNat:Int)):=hd 18 (by kernel_rfl)
   have e3:u 25=(.int .u8 ((UInt8.ofNat (lo / 256).toNat).toNat:Int)):=hd 25 (by kernel_rfl)
   have e4:u 31=(.int .u8 ((UInt8.ofNat lo.toNat).toNat:Int)):=hd 31 (by kernel_rfl)
   exact z5 (Yo _ _ _ _ rfl e1 e2 e3 e4) (n7.alloc _ _) (fun y gy=>⟨_,rfl,gy.block (heap_alloc_new _ _)⟩)
  ·simp only[List.getElem?_cons_succ,List.getElem?_cons_zero,Option.some.injEq] at ho;subst ho
   obtain ⟨bk,e1,e2⟩:=hd 32 (by kernel_rfl)
   exact z5 (a3b (M.Ag lo) rfl bk rfl e1 e2) (n7.refl _) (Al.of rfl)
  ·simp only[List.getElem?_cons_succ,List.getElem?_cons_zero,Option.some.injEq] at ho;subst ho
   have e1:u 4=(.string ⟨l.toArray⟩):=hd 4 (by kernel_rfl)
   have e2:u 33=(.string ⟨(M.Ag lo).toArray⟩):=hd 33 (by kernel_rfl)
   exact z5 (Ts _ _ rfl e1 e2 hsz) (n7.refl _) (Al.of rfl)
  ·simp only[List.getElem?_cons_succ,List.getElem?_cons_zero,Option.some.injEq] at ho;subst ho
   have e1:u 34=(.string (⟨l.toArray⟩++⟨(M.Ag lo).toArray⟩)):=hd 34 (by kernel_rfl)
   exact z5 (Wx _ rfl e1) (n7.refl _) (Al.of rfl)
 ·intro u x hx hd
  replace hx:n7 w x:=hx
  have e2:u 35=(.string (⟨l.toArray⟩++⟨(M.Ag lo).toArray⟩)):=hd 35 (by decide)
  rw[hres] at e2
  clear hd
  simp only[e2]
  go_wp2
  go_ret
  exact ⟨rfl,hx⟩
end
section
theorem Tryz.zero232 (w:World):(zeroValue 232).run prog w=.ok (.agg (cv 259 (cc M.start.p M.start.lo (4294967295-M.start.hi) (fun _=>.slice none 0 0)))) w:=by kernel_rfl
theorem pZ (w:World):Calls prog 153 #[] w fun e w'=>e=.returned (.pointer (some ⟨w.heap.size,0,none⟩))/\w'=w.alloc (.cells (cv 259 (cc M.start.p M.start.lo (4294967295-M.start.hi) (fun _=>.slice none 0 0))) 232):=by
 have hz:=Tryz.zero232
 generalize cv 259 (cc M.start.p M.start.lo (4294967295-M.start.hi) (fun _=>.slice none 0 0))=Z at *
 go_enter func153,ntmps153
 go_wp2
 go_ret
 exact ⟨rfl,rfl⟩
end
end Cod
end
section
namespace Cod
section
def vv (F:List UInt8):Nat->Int
 |0=>0
 |n+1=>vv F n*256 % 4294967296+M.r8 F n
theorem a4w (F:List UInt8):∀n,0<=vv F n/\vv F n<=4294967295
 |0=>by simp[vv]
 |n+1=>by
  have:=M.P5 F n
  show 0<=vv F n*256 % 4294967296+M.r8 F n/\vv F n*256 % 4294967296+M.r8 F n<=4294967295
  omega
theorem Bc (F:List UInt8):∀n,vv F (n+4)=M.val F n
 |0=>by
  have:=M.P5 F 0
  have:=M.P5 F 1
  have:=M.P5 F 2
  have:=M.P5 F 3
  show (((0*256 % 4294967296+M.r8 F 0)*256 % 4294967296+M.r8 F 1)*256 % 4294967296+M.r8 F 2)*256 % 4294967296+M.r8 F 3=M.r8 F 0*16777216+M.r8 F 1*65536+M.r8 F 2*256+M.r8 F 3
  omega
 |n+1=>by
  rw[M.Pe,<-Bc F n];rfl
def RX (f:ByteArray) (n:Nat):Nat->Value:=fun i=>if i=258 then .string f else if i=259 then .int .i64 (n:Int) else .int .u32 (vv f.data.toList n)
theorem uK (v b:Int) (h0:0<=v) (h1:v<=4294967295) (b0:0<=b) (b1:b<=255):bits .or .u32 (v*256 % 4294967296) b=v*256 % 4294967296+b:=by
 obtain ⟨k,hk⟩:∃k:Nat,v % 16777216=k:=⟨(v % 16777216).toNat,by omega⟩
 obtain ⟨c,rfl⟩:∃c:Nat,b=c:=⟨b.toNat,by omega⟩
 have e:v*256 % 4294967296=((k*256:Nat):Int):=by omega
 have hb:k*256<4294967296:=by omega
 rw[e]
 have h:=u32_or_nat (k*256) c (by omega) (by omega)
 rw[h]
 have:k*256 ||| c=k*256+c:=by
  have:=Nat.shiftLeft_add_eq_or_of_lt (show c<2 ^ 8 by omega) k
  rw[Nat.shiftLeft_eq] at this
  exact this.symm
 rw[this];omega
theorem a4q (g:Nat) (f:ByteArray) (n:Nat) (p:Nat->Int) (lo en b:Int) (w:World) (hB:n6 w g 259 261 (cc p lo en (RX f n))) (hn:n<=1000000000000) (hf:f.size<=1000000000000000) :
  Calls prog 207 #[.pointer (some ⟨g,0,none⟩),.int .u8 b] w fun e w'=>e=.returned (.tuple #[])/\n6 w' g 259 261 (cc p lo en (RX f (n+1)))/\Chg g none w w':=by
 obtain ⟨v0,v1⟩:=a4w f.data.toList n
 have c8:w.cell? ⟨g,258,none⟩=some (.string f):=hB.cell 258 (by omega)
 have c9:w.cell? ⟨g,259,none⟩=some (.int .i64 (n:Int)):=hB.cell 259 (by omega)
 have c10:w.cell? ⟨g,260,none⟩=some (.int .u32 (vv f.data.toList n)):=hB.cell 260 (by omega)
 have fr:=fun i=>hB.free i
 have HB:=Lib.hid hB
 clear hB
 go_enter func207,ntmps207
 go_upto_region 1 with fail
 have h1:=HB.out.set 260 (.int .u32 (vv f.data.toList n*256 % 4294967296))
 have hC1:=(Chg.refl g none w).set 260 (.int .u32 (vv f.data.toList n*256 % 4294967296))
 generalize w.setCell ⟨g,260,none⟩ (.int .u32 (vv f.data.toList n*256 % 4294967296))=W1 at *
 rw[bC 260 (by omega)] at h1
 replace c8:W1.cell? ⟨g,258,none⟩=some (.string f):=h1.cell 258 (by omega)
 replace c9:W1.cell? ⟨g,259,none⟩=some (.int .i64 (n:Int)):=h1.cell 259 (by omega)
 replace c10:W1.cell? ⟨g,260,none⟩=some (.int .u32 (vv f.data.toList n*256 % 4294967296)):=h1.cell 260 (by omega)
 replace fr:=fun i=>h1.free i
 replace HB:=Lib.hid h1
 have HC:=Lib.hid hC1
 clear h1 hC1
 refine K2 (C:=fun x=>∃n,x=W1.drewN n) (by kernel_rfl) (by kernel_rfl) ⟨1,rfl⟩ ?_
 repeat (first
  |go_big_quiet_skip
  |(go_big_quiet_want;refine aV ?_;apply Exists.intro;refine ⟨fun x hx=>?_,?_⟩;(focus (obtain ⟨n,rfl⟩:=hx;go_simp<;>rfl));simp only[Act.put,List.setIfInBounds_toArray,List.set_cons_zero,List.set_cons_succ];go_big_quiet_on))
 refine wpQuiet_nil ?_
 rintro x ⟨nn,rfl⟩
 go_upto_if 20 with fail
 replace HB:=Lib.hid (show n6 (W1.drewN nn) _ _ _ _ from HB.out)
 replace HC:=Lib.hid (show Chg g none w (W1.drewN nn) from ⟨HC.out.os,HC.out.tape,HC.out.output,HC.out.size,HC.out.block⟩)
 replace c8:(W1.drewN nn).cell? ⟨g,258,none⟩=some (.string f):=c8
 replace c9:(W1.drewN nn).cell? ⟨g,259,none⟩=some (.int .i64 (n:Int)):=c9
 replace c10:(W1.drewN nn).cell? ⟨g,260,none⟩=some (.int .u32 (vv f.data.toList n*256 % 4294967296)):=c10
 replace fr:∀i,(W1.drewN nn).frozen? ⟨g,i,none⟩=false:=fr
 generalize W1.drewN nn=W2 at *
 go_cut [20] (fun _ wx=>n6 wx g 259 261 (cc p lo en (H6 (H6 (RX f n) 260 (.int .u32 (vv f.data.toList n*256 % 4294967296))) 260 (.int .u32 (vv f.data.toList (n+1)))))/\Chg g none w wx)
 case first=>
  by_cases hlt:n<f.size
  ·go_upto_region 2 with fail
   refine Y2 (C:=fun x=>∃n,x=W2.drewN n) rfl (by kernel_rfl) (by kernel_rfl) (by kernel_rfl) (by kernel_rfl) rfl rfl ⟨1,rfl⟩ ?_
   simp only[V8,List.dropLast,List.cons_append,List.nil_append]
   repeat (first
    |go_big_quiet_skip
    |(go_big_quiet_want;refine aV ?_;apply Exists.intro;refine ⟨fun x hx=>?_,?_⟩;(focus (obtain ⟨n,rfl⟩:=hx;go_simp<;>rfl));simp only[Act.put,List.setIfInBounds_toArray,List.set_cons_zero,List.set_cons_succ];go_big_quiet_on))
   refine wpQuiet_nil ?_
   rintro x ⟨mm,rfl⟩
   have hby:(f[n].toNat:Int)=M.r8 f.data.toList n:=by
    unfold M.r8
    rw[List.getD_eq_getElem?_getD]
    have:f.data.toList[n]? = some f[n]:=by
     rw[Array.getElem?_toList,Array.getElem?_eq_getElem hlt];rfl
    rw[this];rfl
   have hb:=M.P5 f.data.toList n
   rw[hby]
   have hwr:IntKind.u32.wrap (M.r8 f.data.toList n)=M.r8 f.data.toList n:=Ft _ (by omega) (by omega)
   have hor:=uK (vv f.data.toList n) (M.r8 f.data.toList n) v0 v1 hb.1 hb.2
   rw[hwr,hor]
   have hvv:vv f.data.toList n*256 % 4294967296+M.r8 f.data.toList n=vv f.data.toList (n+1):=rfl
   rw[hvv]
   replace c10:(W2.drewN mm).cell? ⟨g,260,none⟩=some (.int .u32 (vv f.data.toList n*256 % 4294967296)):=c10
   have fr2:∀i,(W2.drewN mm).frozen? ⟨g,i,none⟩=false:=fr
   have HB3:=Lib.hid (n6.set (show n6 (W2.drewN mm) _ _ _ _ from HB.out) 260 (.int .u32 (vv f.data.toList (n+1))))
   have HC3:=Lib.hid (Chg.set (show Chg g none w (W2.drewN mm) from ⟨HC.out.os,HC.out.tape,HC.out.output,HC.out.size,HC.out.block⟩) 260 (.int .u32 (vv f.data.toList (n+1))))
   clear hby hwr hor hvv
   generalize vv f.data.toList (n+1)=vn at *
   generalize W2.drewN mm=W3 at *
   go_wp2
   go_meet
   exact ⟨by rw[<-bC 260 (by omega)];exact HB3.out,HC3.out⟩
  ·have hz:M.r8 f.data.toList n=0:=by
    unfold M.r8
    rw[List.getD_eq_getElem?_getD,List.getElem?_eq_none (by simpa using hlt)];rfl
   go_wp2
   go_meet
   refine ⟨HB.out.congr fun i hi=>?_,HC.out⟩
   have e:vv f.data.toList (n+1)=vv f.data.toList n*256 % 4294967296:=by show _+_=_;rw[hz];omega
   rw[e]
   congr 1
   funext k
   unfold H6
   split<;>rfl
 case rest=>
 obtain ⟨hB,hC⟩:=hcut
 clear HB HC c8 c9 c10 fr
 obtain ⟨W3,hW3⟩:∃W3:World,W3=wc:=⟨_,rfl⟩
 subst hW3
 have c9:W3.cell? ⟨g,259,none⟩=some (.int .i64 (n:Int)):=hB.cell 259 (by omega)
 have fr:=hB.free 259
 have HB:=Lib.hid (hB.set 259 (.int .i64 ((n:Int)+1)))
 have HC:=Lib.hid (hC.set 259 (.int .i64 ((n:Int)+1)))
 clear hB hC
 go_wp2
 refine bodyPost_end (results_none rfl _ _ _) rfl ⟨rfl,HB.out.congr fun i hi=>?_,HC.out⟩
 rw[bC 259 (by omega)]
 by_cases h:i<258
 ·unfold cc
  by_cases h1:i<256
  ·simp[h1]
  ·by_cases h2:i=256
   ·simp[h2]
   ·simp[show i=257 by omega]
 ·rw[Hy i (by omega),Hy i (by omega)]
  obtain rfl|rfl|rfl:i=258\/i=259\/i=260:=by omega
  ·rfl
  ·show Value.int .i64 ((n:Int)+1)=.int .i64 ((n+1:Nat):Int)
   rw[Int.natCast_add];rfl
  ·rfl
end
section
theorem Td (g:Nat) (f:ByteArray) (n:Nat) (p:Nat->Int) (lo en:Int) (w:World) (hB:n6 w g 259 261 (cc p lo en (RX f n))) (hn:n<=1000000000) (hf:f.size<=1000000000000000) :
  Calls prog 206 #[.pointer (some ⟨g,0,none⟩)] w fun e w'=>e=.returned (.tuple #[])/\n6 w' g 259 261 (cc p lo en (RX f (n+(4-n))))/\Chg g none w w':=by
 go_enter func206,ntmps206
 go_upto_block 0 with fail
 go_wp2_with fail
 go_loopg [] (4-n) (fun k wr=>∃m:Nat,n<=m/\k=4-m/\(m=n\/m<=4)/\n6 wr g 259 261 (cc p lo en (RX f m))/\Chg g none w wr)
 case atStart=>exact ⟨n,Nat.le_refl _,rfl,.inl rfl,hB,Chg.refl _ _ _⟩
 case round=>
  obtain ⟨m,h1,hk,h2,h3,h4⟩:=hrel
  clear hB
  have c9:wr.cell? ⟨g,259,none⟩=some (.int .i64 (m:Int)):=h3.cell 259 (by omega)
  have HK:=Lib.hid hk
  clear hk
  by_cases hlt:m<4
  ·go_wp2_with fail
   refine (a4q g f m p lo en 0 wr h3 (by omega) hf).mono ?_
   rintro e y ⟨rfl,h5,h6⟩
   go_wp2
   have hk:=HK.out
   go_roundg (4-(m+1))
   case measure=>omega
   case rel=>exact ⟨m+1,by omega,rfl,.inr (by omega),h5,h4.trans (.inl rfl) h6⟩
  ·go_wp2
   refine bodyPost_end (results_none rfl _ _ _) rfl ⟨rfl,?_,h4⟩
   rw[show n+(4-n)=m by omega];exact h3
end
section
structure CbR (g L:Nat) (Q:List UInt8->(Nat->Value)->World->Prop):Prop where
 set:∀l X Y w i v,i<258->n6 w g 259 261 Y->Q l X w->Q l X (w.setCell ⟨g,i,none⟩ v)
 drewN:∀l X w n,Q l X w->Q l X (w.drewN n)
 call:∀l X w p lo en b,n6 w g 259 261 (cc p lo en X)->Q l X w->l.length<=L->Calls prog 207 #[.pointer (some ⟨g,0,none⟩),.int .u8 (b.toNat:Int)] w fun e w'=>e=.returned (.tuple #[])/\∃X',n6 w' g 259 261 (cc p lo en X')/\Q (l++[b]) X' w'
theorem Qy {g L:Nat} {Q:List UInt8->(Nat->Value)->World->Prop} (HC:Hid (CbR g L Q)) (s:M.St) (hs:M.Ok s) (c bit:Int) (X:Nat->Value) (l:List UInt8) (w:World)
  (hB:n6 w g 259 261 (cc s.p s.lo (4294967295-s.hi) X)) (hQ:Q l X w) (hl:l.length+4<=L) :
  Calls prog 187 #[.pointer (some ⟨g,0,none⟩),.int .i64 c,.int .i64 bit,.func (.func 207) #[.pointer (some ⟨g,0,none⟩)] #[]] w fun e w'=>e=.returned (.tuple #[])/\
   ∃X',n6 w' g 259 261 (cc (M.nxt s (cx c) (bit % 2)).p (M.nxt s (cx c) (bit % 2)).lo (4294967295-(M.nxt s (cx c) (bit % 2)).hi) X')/\Q (l++M.M2 s (cx c) (bit % 2)) X' w':=by
 have hk:=oE c
 have c0:=hB.cell (cx c) (by omega)
 rw[Dq _ hk] at c0
 have HM:=Lib.hid (uE g s hs c w c0 (by rw[hB.cell 256 (by omega),dI]) (by rw[hB.cell 257 (by omega),fI]))
 obtain ⟨p1,p2⟩:=hs.p (cx c)
 have HI:=Lib.hid (M.iv1 hs (cx c) (bit % 2))
 have HX:=Lib.hid (show M.nxt s (cx c) (bit % 2)=⟨M.put s.p (cx c) (M.np (s.p (cx c)) (bit % 2)),(M.N5 4 (M.jY s (cx c) (bit % 2)) (M.jF s (cx c) (bit % 2))).2.1,(M.N5 4 (M.jY s (cx c) (bit % 2)) (M.jF s (cx c) (bit % 2))).2.2⟩ from rfl)
 have HO:=Lib.hid (show M.M2 s (cx c) (bit % 2)=(M.N5 4 (M.jY s (cx c) (bit % 2)) (M.jF s (cx c) (bit % 2))).1 from rfl)
 have hmd:=M.Ds hs (cx c)
 have hl0:=hs.lo
 have hh1:=hs.hi
 have ha:=eX c
 rw[<-oS] at ha
 have hb:=zH bit
 go_enter func187,ntmps187
 go_wp2_with fail
 refine HM.out.mono ?_
 rintro e x ⟨rfl,nn,rfl⟩
 have HB:=Lib.hid (show n6 (w.drewN nn) g 259 261 (cc s.p s.lo (4294967295-s.hi) X) from hB)
 have HQ:=Lib.hid (HC.out.drewN _ _ _ nn hQ)
 clear HM hB hQ hs
 replace c0:(w.drewN nn).cell? ⟨g,cx c,none⟩=some (.int .i16 (s.p (cx c)-2048)):=c0
 generalize w.drewN nn=W at *
 go_upto_if 28 with fail
 have m0:0<=M.md s (cx c):=by omega
 have hn:=fJ (M.md s (cx c)) m0 (by omega)
 have m1:IntKind.u32.wrap (M.md s (cx c)+1)=M.md s (cx c)+1:=Ft _ (by omega) (by omega)
 have c6:W.cell? ⟨g,256,none⟩=some (.int .u32 s.lo):=by rw[HB.out.cell 256 (by omega),dI]
 have c7:W.cell? ⟨g,257,none⟩=some (.int .u32 (4294967295-s.hi)):=by rw[HB.out.cell 257 (by omega),fI]
 have f6:=HB.out.free 256
 have f7:=HB.out.free 257
 go_cut [10] (fun s10 wx=>s10=.int .i64 (M.np (s.p (cx c)) (bit % 2))/\n6 wx g 259 261 (cc s.p (M.jY s (cx c) (bit % 2)) (4294967295-M.jF s (cx c) (bit % 2)) X)/\Q l X wx)
 case first=>
  by_cases hbit:bit % 2=1
  ·rw[hbit]
   go_wp2
   go_meet
   refine ⟨?_,?_,HC.out.set _ _ _ _ _ _ (by omega) HB.out HQ.out⟩
   ·unfold M.np;rw[if_pos hbit]
   ·have:=HB.out.set 257 (.int .u32 (4294967295-M.md s (cx c)))
    rw[cV] at this
    rw[show M.jY s (cx c) (bit % 2)=s.lo from if_pos hbit,show M.jF s (cx c) (bit % 2)=M.md s (cx c) from if_pos hbit]
    exact this
  ·obtain hbit:bit % 2=0:=by omega
   rw[hbit]
   go_wp2
   go_meet
   refine ⟨?_,?_,HC.out.set _ _ _ _ _ _ (by omega) HB.out HQ.out⟩
   ·unfold M.np;rw[if_neg (by omega)]
   ·have:=HB.out.set 256 (.int .u32 (M.md s (cx c)+1))
    rw[cI] at this
    rw[show M.jY s (cx c) (bit % 2)=M.md s (cx c)+1 from if_neg (by omega),show M.jF s (cx c) (bit % 2)=s.hi from if_neg (by omega)]
    exact this
 case rest=>
 clear HB HQ hn m0 m1 c6 c7 f6 f7 c0 hmd hl0 hh1 hb
 obtain ⟨rfl,hB,hQ⟩:=hcut
 obtain ⟨W1,hW1⟩:∃W1:World,W1=wc:=⟨_,rfl⟩
 subst hW1
 have n0:=M.Es ⟨p1,p2⟩ (bit % 2)
 have c0:=hB.cell (cx c) (by omega)
 rw[Dq _ hk] at c0
 have f0:=hB.free (cx c)
 have HB:=Lib.hid (wJ (cx c) hk _▸hB.set (cx c) (.int .i16 (M.np (s.p (cx c)) (bit % 2)-2048)))
 have HQ:=Lib.hid (HC.out.set _ _ _ _ (cx c) (.int .i16 (M.np (s.p (cx c)) (bit % 2)-2048)) (by omega) hB hQ)
 clear hB hQ
 have hw1:IntKind.i16.wrap (M.np (s.p (cx c)) (bit % 2)-2048)=M.np (s.p (cx c)) (bit % 2)-2048:=w16 _ (by omega) (by omega)
 generalize M.np (s.p (cx c)) (bit % 2)=np at *
 generalize M.jY s (cx c) (bit % 2)=lo0 at *
 generalize M.jF s (cx c) (bit % 2)=hi0 at *
 clear p1 p2
 go_upto_block 1 with fail
 go_loopg [11] 4 (fun k s11 wr=>∃(l':List UInt8) (lo hi:Int) (X':Nat->Value),Hid (M.Iv k lo hi/\l'++(M.N5 k lo hi).1=l++(M.N5 4 lo0 hi0).1/\(M.N5 k lo hi).2=(M.N5 4 lo0 hi0).2/\l'.length+k<=l.length+4/\n6 wr g 259 261 (cc (M.put s.p (cx c) np) lo (4294967295-hi) X')/\Q l' X' wr))
 case atStart=>exact ⟨l,lo0,hi0,X,Lib.hid ⟨HI.out,rfl,rfl,Nat.le_refl _,HB.out,HQ.out⟩⟩
 case round=>
  obtain ⟨l',lo,hi,X',HR⟩:=hrel
  clear HB HQ HI
  obtain ⟨i1,i2,i3,i4,i5,i6⟩:=id HR.out
  have j0:=i1.lo
  have j1:=i1.le
  have j2:=i1.hi
  have c6:wr.cell? ⟨g,256,none⟩=some (.int .u32 lo):=by rw[i5.cell 256 (by omega),dI]
  have c7:wr.cell? ⟨g,257,none⟩=some (.int .u32 (4294967295-hi)):=by rw[i5.cell 257 (by omega),fI]
  have HI:=Lib.hid (mU g hi (by omega) j2)
  have f6:=i5.free 256
  have f7:=i5.free 257
  clear i1 i2 i3 i4 i5 i6
  go_upto_region 9 with fail
  refine K2 (C:=fun x=>∃n,x=wr.drewN n) (by kernel_rfl) (by kernel_rfl) ⟨1,rfl⟩ ?_
  repeat (first
   |go_big_quiet_skip
   |(go_big_quiet_want;refine aV ?_;apply Exists.intro;refine ⟨fun x hx=>?_,?_⟩;(focus (obtain ⟨n,rfl⟩:=hx;go_simp<;>rfl));simp only[Act.put,List.setIfInBounds_toArray,List.set_cons_zero,List.set_cons_succ];go_big_quiet_on)
   |(go_big_quiet_want;refine mK 203 ?_;apply Exists.intro;refine ⟨fun x hx=>?_,?_⟩;(focus (go_simp<;>rfl));apply Exists.intro;refine ⟨fun x hx=>?_,?_⟩;(focus (obtain ⟨n,rfl⟩:=hx;exact (HI.out (wr.drewN n) c7).mono fun e w' h=>⟨h.1,n,h.2.symm⟩));simp only[Act.put,List.setIfInBounds_toArray,List.set_cons_zero,List.set_cons_succ];go_big_quiet_on))
  refine wpQuiet_nil ?_
  rintro x ⟨n,rfl⟩
  have hgn:∃W2:World,W2=wr.drewN n:=⟨_,rfl⟩
  have HR2:=Lib.hid (show M.Iv gk lo hi/\l'++(M.N5 gk lo hi).1=l++(M.N5 4 lo0 hi0).1/\(M.N5 gk lo hi).2=(M.N5 4 lo0 hi0).2/\l'.length+gk<=l.length+4/\n6 (wr.drewN n) g 259 261 (cc (M.put s.p (cx c) np) lo (4294967295-hi) X')/\Q l' X' (wr.drewN n) from
   ⟨HR.out.1,HR.out.2.1,HR.out.2.2.1,HR.out.2.2.2.1,HR.out.2.2.2.2.1,HC.out.drewN _ _ _ n HR.out.2.2.2.2.2⟩)
  replace c6:(wr.drewN n).cell? ⟨g,256,none⟩=some (.int .u32 lo):=c6
  replace c7:(wr.drewN n).cell? ⟨g,257,none⟩=some (.int .u32 (4294967295-hi)):=c7
  replace f6:(wr.drewN n).frozen? ⟨g,256,none⟩=false:=f6
  replace f7:(wr.drewN n).frozen? ⟨g,257,none⟩=false:=f7
  clear HR HI hgn
  generalize wr.drewN n=W2 at *
  cases e:(lo / 16777216==hi / 16777216) with
  |true=>
   have e':lo / 16777216=hi / 16777216:=by simpa using e
   obtain ⟨i1,i2,i3,i4,i5,i6⟩:=HR2.out
   clear HR2
   cases gk with
   |zero=>exact absurd e' i1.stop
   |succ k=>
    rw[M.mM k lo hi e'] at i2 i3
    have in':=i1.next e'
    have hby:=(M.uI j0 (by omega)).symm
    have hB3:=i5.set 256 (.int .u32 (lo*256 % 4294967296))
    rw[cI] at hB3
    have hB4:=hB3.set 257 (.int .u32 (4294967295-(hi*256+255) % 4294967296))
    rw[cV] at hB4
    have hQ4:=HC.out.set _ _ _ _ 257 (.int .u32 (4294967295-(hi*256+255) % 4294967296)) (by omega) hB3 (HC.out.set _ _ _ _ 256 (.int .u32 (lo*256 % 4294967296)) (by omega) i5 i6)
    have HK:=Lib.hid (HC.out.call l' X' _ _ _ _ (M.Tx lo) hB4 hQ4 (by omega))
    have HP:=Lib.hid (And.intro i2 (And.intro i3 (And.intro i4 in')))
    have HE:=Lib.hid e'
    rw[<-hby] at HK
    have hen:4294967295-(hi*256+255) % 4294967296=(4294967295-hi)*256 % 4294967296:=by omega
    rw[hen] at HK
    replace hen:=Lib.hid hen
    clear i1 i2 i3 i4 i5 i6 in' hB3 hB4 hQ4 hby e'
    go_wp2_with fail
    refine HK.out.mono ?_
    rintro e y ⟨rfl,X2,hB5,hQ5⟩
    go_wp2
    go_roundg k
    case measure=>omega
    case rel=>
     obtain ⟨i2,i3,i4,in'⟩:=HP.out
     exact ⟨l'++[M.Tx lo],_,_,X2,Lib.hid ⟨in',by rw[<-i2,List.append_assoc];rfl,i3,by rw[List.length_append,List.length_singleton];omega,hen.out▸hB5,hQ5⟩⟩
  |false=>
   obtain ⟨i1,i2,i3,i4,i5,i6⟩:=HR2.out
   clear HR2
   go_wp2
   have e':lo / 16777216≠hi / 16777216:=by simpa using e
   rw[M.nK _ lo hi e'] at i2 i3
   refine bodyPost_end (results_none rfl _ _ _) rfl ⟨rfl,X',?_,?_⟩
   ·rw[HX.out]
    show n6 _ _ _ _ (cc _ (M.N5 4 _ _).2.1 (_-(M.N5 4 _ _).2.2) _)
    rw[<-i3];exact i5
   ·rw[HO.out,<-i2];simpa using i6
end
section
theorem qS (x:World) (n k:Nat):(x.drewN n).drewN k=x.drewN (n+k):=by
 simp[World.drewN,Nat.add_assoc]
structure RQ (g:Nat) (f:ByteArray) (n:Nat) (w1:World) (l:List UInt8) (X:Nat->Value) (x:World):Prop where
 cells:∀i,258<=i->i<261->X i=RX f (n+l.length) i
 chg:Chg g none w1 x
theorem zR {p lo en X Y} (h:∀i,258<=i->i<261->X i=Y i) (i:Nat) (hi:i<261):cc p lo en X i=cc p lo en Y i:=by
 by_cases h1:i<256
 ·rw[Dq i h1,Dq i h1]
 ·by_cases h2:i=256
  ·subst h2;rw[dI,dI]
  ·by_cases h3:i=257
   ·subst h3;rw[fI,fI]
   ·rw[Hy i (by omega),Hy i (by omega)];exact h i (by omega) hi
theorem c6t (g:Nat) (f:ByteArray) (n:Nat) (w1:World) (hn:n<=1000000000) (hf:f.size<=1000000000000000):CbR g 1000000 (RQ g f n w1) where
 set:=fun l X Y w i v hi hb h=>⟨h.cells,h.chg.set i v⟩
 drewN:=fun l X w k h=>⟨h.cells,⟨h.chg.os,h.chg.tape,h.chg.output,h.chg.size,h.chg.block⟩⟩
 call:=fun l X w p lo en b hb h hl=>by
  refine (a4q g f (n+l.length) p lo en (b.toNat:Int) w (hb.congr (zR h.cells)) (by omega) hf).mono ?_
  rintro e w' ⟨rfl,h1,h2⟩
  exact ⟨rfl,_,h1,fun i _ _=>by rw[List.length_append];rfl,h.chg.trans (.inl rfl) h2⟩
theorem b7x (g:Nat) (f:ByteArray) (n:Nat) (s:M.St) (hs:M.Ok s) (c:Int) (w:World) (hB:n6 w g 259 261 (cc s.p s.lo (4294967295-s.hi) (RX f n))) (hn:n<=100000000) (hf:f.size<=1000000000000000) :
  Calls prog 196 #[.pointer (some ⟨g,0,none⟩),.int .i64 c] w fun e w'=>e=.returned (.int .i64 (M.rb s (cx c) (M.val f.data.toList (n-4))))/\
   n6 w' g 259 261 (cc (M.nxt s (cx c) (M.rb s (cx c) (M.val f.data.toList (n-4)))).p (M.nxt s (cx c) (M.rb s (cx c) (M.val f.data.toList (n-4)))).lo (4294967295-(M.nxt s (cx c) (M.rb s (cx c) (M.val f.data.toList (n-4)))).hi) (RX f (n+(4-n)+(M.M2 s (cx c) (M.rb s (cx c) (M.val f.data.toList (n-4)))).length)))/\Chg g none w w':=by
 have HF:=Lib.hid (Td g f n s.p s.lo (4294967295-s.hi) w hB (by omega) hf)
 have hk:=oE c
 clear hB
 obtain ⟨N,hN⟩:∃N,N=n+(4-n):=⟨_,rfl⟩
 have hN4:N=(n-4)+4:=by omega
 have hv:vv f.data.toList N=M.val f.data.toList (n-4):=by rw[hN4];exact Bc _ _
 rw[<-hN] at HF⊢
 have hNb:N<=1000000000:=by omega
 clear hN hN4 hn
 generalize M.val f.data.toList (n-4)=V at *
 obtain ⟨b,hb⟩:∃b,b=M.rb s (cx c) V:=⟨_,rfl⟩
 have hb2:b % 2=b:=by rw[hb];unfold M.rb;split<;>rfl
 go_enter func196,ntmps196
 go_wp2_with fail
 refine HF.out.mono ?_
 rintro e x ⟨rfl,h1,h2⟩
 clear HF
 have c10:x.cell? ⟨g,260,none⟩=some (.int .u32 V):=by rw[h1.cell 260 (by omega),<-hv];rfl
 have hp:=h1.cell (cx c) (by omega)
 rw[Dq _ hk] at hp
 have hl:x.cell? ⟨g,256,none⟩=some (.int .u32 s.lo):=by rw[h1.cell 256 (by omega),dI]
 have he:x.cell? ⟨g,257,none⟩=some (.int .u32 (4294967295-s.hi)):=by rw[h1.cell 257 (by omega),fI]
 have HM:=Lib.hid (fun n=>uE g s hs c (x.drewN n) hp hl he)
 have H1:=Lib.hid h1
 have H2:=Lib.hid h2
 have HN:=Lib.hid (fun k b=>Qy (Lib.hid (c6t g f N x (by omega) hf)) s hs c b (RX f N) [] (x.drewN k) h1 ⟨fun i _ _=>rfl,⟨rfl,rfl,rfl,Nat.le_refl _,fun _ _ _ _=>rfl⟩⟩ (by decide))
 replace hb:=Lib.hid hb
 replace hb2:=Lib.hid hb2
 clear h1 h2 hp hl he hv
 go_upto_region 5 with fail
 refine K2 (C:=fun y=>∃n,y=x.drewN n) (by kernel_rfl) (by kernel_rfl) ⟨1,rfl⟩ ?_
 repeat (first
  |go_big_quiet_skip
  |(go_big_quiet_want;refine aV ?_;apply Exists.intro;refine ⟨fun x hx=>?_,?_⟩;(focus (obtain ⟨n,rfl⟩:=hx;go_simp<;>rfl));simp only[Act.put,List.setIfInBounds_toArray,List.set_cons_zero,List.set_cons_succ];go_big_quiet_on)
  |(go_big_quiet_want;refine mK 202 ?_;apply Exists.intro;refine ⟨fun x hx=>?_,?_⟩;(focus (go_simp<;>rfl));apply Exists.intro;refine ⟨fun x hx=>?_,?_⟩;(focus (obtain ⟨n,rfl⟩:=hx;exact (HM.out n).mono fun e w' h=>⟨h.1,by obtain ⟨k,e⟩:=h.2;exact ⟨n+k,by rw[e];exact qS x n k⟩⟩));simp only[Act.put,List.setIfInBounds_toArray,List.set_cons_zero,List.set_cons_succ];go_big_quiet_on))
 refine wpQuiet_nil ?_
 rintro y ⟨k,rfl⟩
 go_upto_if 19 with fail
 go_cut [5] (fun s5 wx=>s5=.int .i64 b/\wx=x.drewN k)
 case first=>
  by_cases hV:V<=M.md s (cx c)
  ·go_wp2
   go_meet
   exact ⟨by rw[hb.out];unfold M.rb;rw[if_pos hV],rfl⟩
  ·go_wp2
   go_meet
   exact ⟨by rw[hb.out];unfold M.rb;rw[if_neg (by omega)],rfl⟩
 case rest=>
 obtain ⟨rfl,rfl⟩:=hcut
 have HN2:=Lib.hid (HN.out k b)
 rw[hb2.out] at HN2
 clear HN HM
 go_wp2_with fail
 refine HN2.out.mono ?_
 rintro e z ⟨rfl,X',h3,h4⟩
 go_wp2
 go_ret
 refine ⟨by have e:=hb.out;subst e;rfl,?_,?_⟩
 ·rw[<-hb.out]
  exact h3.congr (zR fun i h1 h2=>by have:=h4.cells i h1 h2;simpa using this)
 ·exact H2.out.trans (.inl rfl) h4.chg
end
section
theorem Tryz.zero259 (w:World):(zeroValue 259).run prog w=.ok (.agg (cv 261 (cc M.start.p M.start.lo (4294967295-M.start.hi) (RX ⟨#[]⟩ 0)))) w:=by kernel_rfl
theorem pW (f:ByteArray) (w:World):Calls prog 194 #[.string f] w fun e w'=>e=.returned (.pointer (some ⟨w.heap.size,0,none⟩))/\n6 w' w.heap.size 259 261 (cc M.start.p M.start.lo (4294967295-M.start.hi) (RX f 0))/\n7 w w':=by
 have hz:=Tryz.zero259
 have hset:=tT 261 (cc M.start.p M.start.lo (4294967295-M.start.hi) (RX ⟨#[]⟩ 0)) 258 (.string f)
 have hzs:¬(cv 261 (cc M.start.p M.start.lo (4294967295-M.start.hi) (RX ⟨#[]⟩ 0))).size<259:=by rw[D5];omega
 generalize cv 261 (cc M.start.p M.start.lo (4294967295-M.start.hi) (RX ⟨#[]⟩ 0))=Z at *
 replace hset:=Lib.hid hset
 go_enter func194,ntmps194
 go_wp2
 go_ret
 refine ⟨rfl,?_,n7.alloc _ _⟩
 unfold n6
 rw[heap_alloc_new,hset.out,bC 258 (by omega)]
 congr 2
end
section
theorem Sq {o:Oper} {ρ:Operand->Value} {x:World} {y z:Operand} (g k:Nat) (ho:o.op=.indexAddr 234 y z) (hy:ρ y=.pointer (some ⟨g,0,none⟩)) (hz:ρ z=.int .i64 (k:Int)) (hk:k<256):(execOp ρ o).run prog x=.ok (.value (.pointer (some ⟨g,k,none⟩))) x:=by
 have hk2:(k:Int)<256:=by omega
 unfold execOp;rw[ho];simp only[hy,hz];go_simp
theorem zB (g:Nat) (s:M.St) (hs:M.Ok s) (c:Int) (w:World) (hp:w.cell? ⟨g,cx c,none⟩=some (.int .i64 (s.p (cx c)))) (hl:w.cell? ⟨g,256,none⟩=some (.int .u32 s.lo)) (he:w.cell? ⟨g,257,none⟩=some (.int .u32 s.hi)) :
  Calls prog 204 #[.pointer (some ⟨g,0,none⟩),.int .i64 c] w fun e w'=>e=.returned (.int .u32 (M.md s (cx c)))/\∃n,w'=w.drewN n:=by
 obtain ⟨p1,p2⟩:=hs.p (cx c)
 obtain ⟨m1,m2⟩:=M.Pw hs (cx c)
 have l0:=hs.lo
 have le:=hs.le
 have l1:=hs.hi
 have hm:M.md s (cx c)=s.lo+(s.hi-s.lo) / 4096*s.p (cx c):=rfl
 rw[hm]
 clear hm
 have ha:=eX c
 rw[<-oS] at ha
 have hk:=oE c
 clear hs
 go_enter func204,ntmps204
 go_upto_region 1 with fail
 refine K2 (C:=fun x=>∃n,x=w.drewN n) (by kernel_rfl) (by kernel_rfl) ⟨1,rfl⟩ ?_
 repeat (first
  |go_big_quiet_skip
  |(go_big_quiet_want;refine aV ?_;apply Exists.intro;refine ⟨fun x hx=>?_,?_⟩;(focus (obtain ⟨n,rfl⟩:=hx;first|exact Sq g (cx c) rfl rfl rfl hk|(go_simp<;>rfl)));simp only[Act.put,List.setIfInBounds_toArray,List.set_cons_zero,List.set_cons_succ];go_big_quiet_on))
 refine wpQuiet_nil ?_
 rintro x ⟨n,rfl⟩
 go_wp2
 go_ret
 refine ⟨F0 ?_,n,rfl⟩
 have e1:(s.hi-s.lo).tdiv 4096=(s.hi-s.lo) / 4096:=Int.tdiv_eq_ediv_of_nonneg (by omega)
 have e2:0<=(s.hi-s.lo) / 4096/\(s.hi-s.lo) / 4096<=4294967295:=by omega
 show IntKind.u32.wrap (s.lo+IntKind.u32.wrap (IntKind.u32.wrap ((IntKind.u32.wrap (s.hi-s.lo)).tdiv 4096)*IntKind.u32.wrap (s.p (cx c))))=_
 rw[Ft (s.p (cx c)) (by omega) (by omega),Ft (s.hi-s.lo) (by omega) (by omega),e1,Ft ((s.hi-s.lo) / 4096) (by omega) (by omega),Ft ((s.hi-s.lo) / 4096*s.p (cx c)) (by omega) (by omega),Ft _ (by omega) (by omega)]
end
section
structure WS (B g:Nat) (ro:Option Nat) (s:M.St) (l:List UInt8) (w:World):Prop where
 ok:M.Ok s
 bd:B<=w.heap.size
 ge:B<=g
 ex:∃X,n6 w g 232 259 (cc s.p s.lo (4294967295-s.hi) X)/\w.ownsRow B 5 1 (X 258) l.length (t4 l)/\(X 258).ownBlock=ro
theorem WS.lt {B g ro s l w} (h:WS B g ro s l w):g<w.heap.size:=by
 obtain ⟨X,h1,_⟩:=h.ex
 exact h1.lt
theorem WS.ro_ge {B g ro s l w} (h:WS B g ro s l w) (k:Nat) (e:ro=some k):B<=k/\k<w.heap.size:=by
 obtain ⟨X,h1,h2,h3⟩:=h.ex
 have h4:=h2.lt k (by rw[h3,e])
 exact ⟨h4.1,h4.2⟩
theorem WS.ne {B g ro s l w} (h:WS B g ro s l w) {k t:Nat} {c fr} (hk:w.heap[k]? = some (.cells c t fr)) (h5:t≠5) (h68:t≠232):k≠g/\some k≠ro:=by
 obtain ⟨X,h1,h2,h3⟩:=h.ex
 refine ⟨jC h1 hk (Ne.symm h68),?_⟩
 rw[<-h3];exact H9 h2 hk h5
theorem WS.grow {B g ro s l w w'} (h:WS B g ro s l w) (hg:n7 w w'):WS B g ro s l w':=by
 obtain ⟨X,x1,x2,x3⟩:=h.ex
 exact ⟨h.ok,Nat.le_trans h.bd (Below.size hg),h.ge,X,x1.grow hg,fH x2 hg,x3⟩
theorem tW (w:World):Calls prog 153 #[] w fun e w'=>e=.returned (.pointer (some ⟨w.heap.size,0,none⟩))/\WS w.heap.size w.heap.size none M.start [] w'/\n7 w w':=by
 refine (pZ w).mono ?_
 rintro e w' ⟨rfl,rfl⟩
 refine ⟨rfl,⟨M.cG,n7.size (n7.alloc _ _),Nat.le_refl _,_,heap_alloc_new _ _,?_,?_⟩,n7.alloc _ _⟩
 ·exact ⟨rfl,.inl ⟨rfl,rfl⟩⟩
 ·rfl
theorem WS.lower {B B' g ro s l w} (h:WS B g ro s l w) (hB:B'<=B):WS B' g ro s l w:=by
 obtain ⟨X,x1,x2,x3⟩:=h.ex
 refine ⟨h.ok,Nat.le_trans hB h.bd,Nat.le_trans hB h.ge,X,x1,?_,x3⟩
 obtain ⟨y1,y2⟩:=x2
 refine ⟨y1,y2.imp id ?_⟩
 rintro ⟨k,cap,cur,e1,e2,e3⟩
 exact ⟨k,cap,cur,e1,Nat.le_trans hB e2,e3⟩
theorem a6l {B g ro s l w} (h:WS B g ro s l w) (c bit:Int) (hl:l.length+4<=100000000) :
  Calls prog 156 #[.pointer (some ⟨g,0,none⟩),.int .i64 c,.int .i64 bit] w fun e w'=>e=.returned (.tuple #[])/\∃ro',WS B g ro' (M.nxt s (cx c) (bit % 2)) (l++M.M2 s (cx c) (bit % 2)) w'/\Ae ro ro' w/\Chg g ro w w':=by
 obtain ⟨X,x1,x2,x3⟩:=h.ex
 refine (c2l B g s h.ok c bit X l w x1 x2 h.bd hl).mono ?_
 rintro e w' ⟨rfl,X',y1,y2,y3,y4⟩
 rw[x3] at y3 y4
 exact ⟨rfl,_,⟨M.nF h.ok _ _,Nat.le_trans h.bd y4.size,h.ge,X',y1,y2,rfl⟩,y3,y4⟩
theorem Pg {B g ro s l w} (h:WS B g ro s l w) (hl:l.length<=100000000) :
  Calls prog 157 #[.pointer (some ⟨g,0,none⟩)] w fun e w'=>e=.returned (.string ⟨(l++M.Ag s.lo).toArray⟩)/\n7 w w':=by
 obtain ⟨X,x1,x2,x3⟩:=h.ex
 exact a4g B g s h.ok X l w x1 x2 hl
theorem WS.below {B g ro s l w w'} (h:WS B g ro s l w) (k:Chg g ro w w'):Below B w w':=k.below h.ge (fun j e=>(h.ro_ge j e).1) h.bd
structure RS (g:Nat) (f:ByteArray) (m:Nat) (s:M.St) (w:World):Prop where
 ok:M.Ok s
 ex:∃n,n-4=m/\n6 w g 259 261 (cc s.p s.lo (4294967295-s.hi) (RX f n))
theorem RS.lt {g f m s w} (h:RS g f m s w):g<w.heap.size:=by
 obtain ⟨n,_,h1⟩:=h.ex
 exact h1.lt
theorem RS.grow {g f m s w w'} (h:RS g f m s w) (hg:n7 w w'):RS g f m s w':=by
 obtain ⟨n,h0,h1⟩:=h.ex
 exact ⟨h.ok,n,h0,h1.grow hg⟩
theorem tO (f:ByteArray) (w:World):Calls prog 194 #[.string f] w fun e w'=>e=.returned (.pointer (some ⟨w.heap.size,0,none⟩))/\RS w.heap.size f 0 M.start w'/\n7 w w':=by
 refine (pW f w).mono ?_
 rintro e w' ⟨rfl,h1,h2⟩
 exact ⟨rfl,⟨M.cG,0,rfl,h1⟩,h2⟩
def nb (f:ByteArray) (m:Nat) (s:M.St) (c:Int):Int:=M.rb s (cx c) (M.val f.data.toList m)
theorem b1u (f m s c):nb f m s c=0\/nb f m s c=1:=by unfold nb M.rb;split<;>simp
theorem b2v {g f m s w} (h:RS g f m s w) (c:Int) (hm:m<=90000000) (hf:f.size<=1000000000000000) :
  Calls prog 196 #[.pointer (some ⟨g,0,none⟩),.int .i64 c] w fun e w'=>e=.returned (.int .i64 (nb f m s c))/\RS g f (m+(M.M2 s (cx c) (nb f m s c)).length) (M.nxt s (cx c) (nb f m s c)) w'/\Chg g none w w':=by
 obtain ⟨n,rfl,x1⟩:=h.ex
 refine (b7x g f n s h.ok c w x1 (by omega) hf).mono ?_
 rintro e w' ⟨rfl,h1,h2⟩
 exact ⟨rfl,⟨M.nF h.ok _ _,_,by unfold nb;omega,h1⟩,h2⟩
end
end Cod
end
section
namespace Cod
section
theorem qR {f:FuncId} {fn:Func} {c:Code} (hf:prog.funcs[f]? = some fn) (hname:(fn.name == "runtime.NumGoroutine")=false) (hb:fn.body=some c) (args:Array Value) (w:World):(callFunc f args).run prog w=.ok (.enter f args) w:=by
 have h1:fn.name≠ "runtime.NumGoroutine":=by simpa using hname
 simp[callFunc,hf,h1,hb,mark]
structure CbE (fn:Nat) (cap:Array Value) (cx bt:Nat->Int) (I:Nat->World->Prop):Prop where
 enters:∀args w,(callFunc fn args).run prog w=.ok (.enter fn args) w
 start:cx 0=1
 next:∀k,k<8->cx (k+1)=2*cx k+bt k
 bit:∀k,k<8->bt k=0\/bt k=1
 call:∀k w,k<8->I k w->Calls prog fn (#[.int .i64 (7-(k:Int)),.int .i64 (cx k)]++cap) w fun e w'=>e=.returned (.int .i64 (bt k))/\I (k+1) w'
theorem CbE.bd {fn cap cx bt I} (h:CbE fn cap cx bt I):∀k,k<=8->1<=cx k/\cx k<2 ^ (k+1)
 |0,_=>by rw[h.start];decide
 |k+1,hk=>by
  have ih:=h.bd k (by omega)
  have hb:=h.bit k (by omega)
  rw[h.next k (by omega)]
  have:(2:Int) ^ (k+1+1)=2*2 ^ (k+1):=by rw[Int.pow_succ,Int.mul_comm]
  omega
theorem zM (fn:Nat) (cap:Array Value) (cx bt:Nat->Int) (I:Nat->World->Prop) (H:Hid (CbE fn cap cx bt I)) (w:World) (h:I 0 w) :
  Calls prog 154 #[.func (.func fn) #[] cap] w fun e w'=>e=.returned (.tuple #[])/\I 8 w':=by
 go_enter func154,ntmps154
 go_upto_block 2 with fail
 go_loopg [2,3] 8 (fun k s2 s3 wr=>k<=8/\s2=.int .i64 (cx (8-k))/\s3=.int .i64 ((k:Int)-1)/\I (8-k) wr)
 case atStart=>exact ⟨Nat.le_refl _,by rw[H.out.start],rfl,h⟩
 case round=>
  obtain ⟨hk,rfl,rfl,hI⟩:=hrel
  cases gk with
  |zero=>
   go_wp2
   refine bodyPost_end (results_none rfl _ _ _) rfl ⟨rfl,hI⟩
  |succ k=>
   have e8:8-(k+1)+1=8-k:=by omega
   have e7:7-k+1=8-k:=by omega
   have e77:8-(k+1)=7-k:=by omega
   rw[e77] at hI
   have hc:=H.out.call (7-k) wr (by omega) hI
   rw[show 7-((7-k:Nat):Int)=(k:Int) by omega,e7] at hc
   have hn:=H.out.next (7-k) (by omega)
   rw[e7] at hn
   have hb0:=H.out.bd (7-k) (by omega)
   have hp0:(2:Int) ^ (7-k+1)<=512:=by
    have:(2:Nat) ^ (7-k+1)<=2 ^ 9:=Nat.pow_le_pow_right (by omega) (by omega)
    exact_mod_cast this
   have hen:=Lib.hid H.out.enters
   have hb:=H.out.bd (8-k) (by omega)
   have hb2:=H.out.bit (7-k) (by omega)
   have hp:(2:Int) ^ (8-k+1)<=512:=by
    have:(2:Nat) ^ (8-k+1)<=2 ^ 9:=Nat.pow_le_pow_right (by omega) (by omega)
    exact_mod_cast this
   replace hc:=Lib.hid hc
   replace hn:=Lib.hid hn
   go_wp2_with fail
   rw[hen.out,Oper.upon_enter]
   refine hc.out.mono ?_
   rintro e w' ⟨rfl,hI'⟩
   replace hn:=hn.out
   go_wp2
   go_roundg k
   case measure=>omega
   case rel=>exact ⟨by omega,by rw[hn],rfl,hI'⟩
end
section
theorem yC (x:UInt8) (k:Nat) (hk:k<8):(x.toNat:Int) / 2 ^ (7-k) % 2=(M.J2 x.toNat k).2:=by
 unfold M.J2
 dsimp only
 rw[Int.natCast_emod,Int.natCast_ediv,Int.natCast_pow]
 rfl
theorem d1a {B g sb ib wb:Nat} {ro:Option Nat} {s:M.St} {l:List UInt8} {f:ByteArray} {i:Nat} (hi:i<f.size) (w:World) (h:WS B g ro s l w) (hl:l.length+4<=100000000)
  (h1:w.heap[sb]? = some (.cells #[.string f] 9 (0,0))) (h2:w.heap[ib]? = some (.cells #[.int .i64 (i:Int)] 3 (0,0))) (h3:w.heap[wb]? = some (.cells #[.pointer (some ⟨g,0,none⟩)] 202 (0,0)))
  (k:Nat) (hk:k<8) (c:Int) :
  Calls prog 155 #[.int .i64 (7-(k:Int)),.int .i64 c,.pointer (some ⟨sb,0,none⟩),.pointer (some ⟨ib,0,none⟩),.pointer (some ⟨wb,0,none⟩)] w fun e w'=>
   e=.returned (.int .i64 (M.J2 (f[i]).toNat k).2)/\∃ro',WS B g ro' (M.nxt s (cx c) (M.J2 (f[i]).toNat k).2) (l++M.M2 s (cx c) (M.J2 (f[i]).toNat k).2) w'/\Ae ro ro' w/\Chg g ro w w':=by
 have d1:w.cell? ⟨sb,0,none⟩=some (.string f):=by rw[cell_of_row w sb 0 _ _ _ h1];rfl
 have d2:w.cell? ⟨ib,0,none⟩=some (.int .i64 (i:Int)):=by rw[cell_of_row w ib 0 _ _ _ h2];rfl
 have d3:w.cell? ⟨wb,0,none⟩=some (.pointer (some ⟨g,0,none⟩)):=by rw[cell_of_row w wb 0 _ _ _ h3];rfl
 obtain ⟨bt,hbt⟩:∃bt,bt=(M.J2 (f[i]).toNat k).2:=⟨_,rfl⟩
 have hb01:bt=0\/bt=1:=by rw[hbt];exact M.gZ _ _
 have hb:=yC f[i] k hk
 rw[<-hbt] at hb⊢
 have HW:=Lib.hid (a6l h c bt hl)
 rw[show bt % 2=bt by omega] at HW
 clear h h1 h2 h3 hbt
 replace hb01:=Lib.hid hb01
 go_enter func155,ntmps155
 go_wp2_with fail
 have heq:bits .and .i64 (wrap64 ((f[i].toNat:Int) / 2 ^ (7-k))) 1=bt:=by
  have hx:=(f[i]).toNat_lt
  have h1:(1:Int)<=2 ^ (7-k):=Int.pow_pos (by decide)
  have h2:0<=(f[i].toNat:Int) / 2 ^ (7-k):=Int.ediv_nonneg (by omega) (by omega)
  have h3:(f[i].toNat:Int) / 2 ^ (7-k)<=f[i].toNat:=Int.ediv_le_self _ (by omega)
  rw[IntWalk.wrap64_in _ (by omega),zH,hb]
 rw[heq]
 refine HW.out.mono ?_
 rintro e w' ⟨rfl,ro',hQ⟩
 replace hQ:=Lib.hid hQ
 go_wp2
 go_ret
 exact ⟨rfl,ro',hQ.out⟩
structure EI (B g sb ib wb:Nat) (f:ByteArray) (i:Nat) (w0:World) (s:M.St) (l:List UInt8) (w:World):Prop where
 ws:∃ro,WS B g ro s l w
 sb:w.heap[sb]? = some (.cells #[.string f] 9 (0,0))
 ib:w.heap[ib]? = some (.cells #[.int .i64 (i:Int)] 3 (0,0))
 wb:w.heap[wb]? = some (.cells #[.pointer (some ⟨g,0,none⟩)] 202 (0,0))
 below:Below B w0 w
theorem EI.chg {B g sb ib wb f i w0 s l w ro w' s' l' ro'} (h:EI B g sb ib wb f i w0 s l w) (k:WS B g ro s l w) (k':WS B g ro' s' l' w') (hc:Chg g ro w w'):EI B g sb ib wb f i w0 s' l' w':=by
 refine ⟨⟨_,k'⟩,?_,?_,?_,h.below.trans (k.below hc)⟩
 ·have:=k.ne h.sb (by decide) (by decide)
  rw[hc.block _ (Array.getElem?_eq_some_iff.1 h.sb).1 this.1 this.2];exact h.sb
 ·have:=k.ne h.ib (by decide) (by decide)
  rw[hc.block _ (Array.getElem?_eq_some_iff.1 h.ib).1 this.1 this.2];exact h.ib
 ·have:=k.ne h.wb (by decide) (by decide)
  rw[hc.block _ (Array.getElem?_eq_some_iff.1 h.wb).1 this.1 this.2];exact h.wb
def Ai (x:UInt8) (k:Nat):List (Nat×Int):=(List.range k).map (M.J2 x.toNat)
theorem xU (x:UInt8) (k:Nat):Ai x (k+1)=Ai x k++[M.J2 x.toNat k]:=by
 unfold Ai;rw[List.range_succ,List.map_append];rfl
theorem c0t (x:UInt8):Ai x 8=M.bD x:=rfl
theorem yX (x k:Nat) (hk:k<8):(((256+x) / 2 ^ (8-(k+1)):Nat):Int)=2*(((256+x) / 2 ^ (8-k):Nat):Int)+(M.J2 x k).2:=by
 unfold M.J2
 dsimp only
 obtain rfl|rfl|rfl|rfl|rfl|rfl|rfl|rfl:k=0\/k=1\/k=2\/k=3\/k=4\/k=5\/k=6\/k=7:=by omega
 all_goals simp only[Nat.reduceSub,Nat.reduceAdd,Nat.reducePow]
 all_goals omega
theorem Lb (x k:Nat) (hx:x<256) (hk:k<8):cx (((256+x) / 2 ^ (8-k):Nat):Int)=(M.J2 x k).1:=by
 unfold cx M.J2
 dsimp only
 obtain rfl|rfl|rfl|rfl|rfl|rfl|rfl|rfl:k=0\/k=1\/k=2\/k=3\/k=4\/k=5\/k=6\/k=7:=by omega
 all_goals simp only[Nat.reduceSub,Nat.reducePow]
 all_goals omega
theorem c2w {B g sb ib wb:Nat} {f:ByteArray} {i:Nat} (hi:i<f.size) {w0:World} {s:M.St} {l:List UInt8} (hl:l.length+36<=100000000) :
  CbE 155 #[.pointer (some ⟨sb,0,none⟩),.pointer (some ⟨ib,0,none⟩),.pointer (some ⟨wb,0,none⟩)] (fun k=>(((256+f[i].toNat) / 2 ^ (8-k):Nat):Int)) (fun k=>(M.J2 f[i].toNat k).2)
   (fun k w=>k<=8/\EI B g sb ib wb f i w0 (M.bI s (Ai f[i] k)) (l++M.X6 s (Ai f[i] k)) w) where
 enters:=qR func155 (by kernel_rfl) rfl
 start:=by have:=(f[i]).toNat_lt;show (((256+f[i].toNat) / 2 ^ 8:Nat):Int)=1;omega
 next:=fun k hk=>yX _ _ hk
 bit:=fun k hk=>M.gZ _ _
 call:=fun k w hk h=>by
  obtain ⟨ro,hw⟩:=h.2.ws
  have hlen:=M.T3 (Ai f[i] k) s
  have hbl:(Ai f[i] k).length=k:=by simp[Ai]
  refine (d1a hi w hw (by rw[List.length_append];omega) h.2.sb h.2.ib h.2.wb k hk _).mono ?_
  rintro e w' ⟨rfl,ro',k1,k2,k3⟩
  refine ⟨rfl,by omega,?_⟩
  have:=h.2.chg hw k1 k3
  rw[Lb _ _ (f[i]).toNat_lt hk] at this
  rw[xU,M.Q1,M.P8]
  simpa [M.bI,M.X6] using this
structure EL (B g sb wb:Nat) (f:ByteArray) (w0:World) (s:M.St) (l:List UInt8) (w:World):Prop where
 ws:∃ro,WS B g ro s l w
 sb:w.heap[sb]? = some (.cells #[.string f] 9 (0,0))
 wb:w.heap[wb]? = some (.cells #[.pointer (some ⟨g,0,none⟩)] 202 (0,0))
 below:Below B w0 w
theorem EL.wbsz {B g sb wb f w0 s l w} (h:EL B g sb wb f w0 s l w):wb<w.heap.size:=(Array.getElem?_eq_some_iff.1 h.wb).1
theorem EL.ei {B g sb wb f w0 s l w} (h:EL B g sb wb f w0 s l w) (i:Nat):EI B g sb w.heap.size wb f i w0 s l (w.alloc (.cells #[.int .i64 (i:Int)] 3)):=by
 obtain ⟨ro,k⟩:=h.ws
 exact ⟨⟨ro,k.grow (n7.alloc _ _)⟩,(n7.alloc _ _).block h.sb,heap_alloc_new _ _,(n7.alloc _ _).block h.wb,h.below.trans (Below.mono (show Below w.heap.size _ _ from n7.alloc _ _) k.bd)⟩
theorem EI.el {B g sb ib wb f i w0 s l w} (h:EI B g sb ib wb f i w0 s l w):EL B g sb wb f w0 s l w:=⟨h.ws,h.sb,h.wb,h.below⟩
theorem dN (f:ByteArray) (i:Nat) (hi:i<f.size):M.A9 (f.data.toList.take (i+1))=M.A9 (f.data.toList.take i)++M.bD f[i]:=by
 have h:f.data.toList.take (i+1)=f.data.toList.take i++[f[i]]:=by
  rw[List.take_add_one]
  have:f.data.toList[i]? = some f[i]:=by
   rw[Array.getElem?_toList,Array.getElem?_eq_getElem hi];rfl
  rw[this];rfl
 rw[h,M.nA]
 exact congrArg _ (List.append_nil _)
theorem Cw (f:ByteArray) (w:World) (hf:f.size<=2500000) :
  Calls prog 114 #[.string f] w fun e w'=>e=.returned (.string ⟨(M.enc f.data.toList).toArray⟩)/\n7 w w':=by
 have HN:=Lib.hid (tW (w.alloc (.cells #[.string f] 9)))
 go_enter func114,ntmps114
 go_wp2_with fail
 refine HN.out.mono ?_
 rintro e x ⟨rfl,hw,hg⟩
 clear HN
 have hsz:(w.alloc (.cells #[.string f] 9)).heap.size=w.heap.size+1:=by simp
 rw[hsz] at hw⊢
 have hE:WS w.heap.size (w.heap.size+1) none M.start [] x:=hw.lower (by omega)
 have hs:x.heap[w.heap.size]? = some (.cells #[.string f] 9 (0,0)):=hg.block (heap_alloc_new w _)
 have hb:Below w.heap.size w x:=(n7.alloc w _).trans hg
 have hx:=hw.lt
 have c1:x.cell? ⟨w.heap.size,0,none⟩=some (.string f):=by rw[cell_of_row x _ 0 _ _ _ hs];rfl
 have hx0:w.heap.size<x.heap.size:=by omega
 replace hs:=Lib.hid hs
 replace hE:=Lib.hid hE
 replace hb:=Lib.hid hb
 clear hw hg hsz
 have hwb:Hid ((x.alloc (.cells #[.pointer (some ⟨w.heap.size+1,0,none⟩)] 202)).heap[x.heap.size]? = some (.cells #[.pointer (some ⟨w.heap.size+1,0,none⟩)] 202 (0,0))):=Lib.hid (heap_alloc_new _ _)
 go_upto_block 1 with fail
 obtain ⟨sb,hsb⟩:∃sb,sb=w.heap.size:=⟨_,rfl⟩
 go_loopg [8] f.size (fun k s8 wr=>∃i,i+k=f.size/\s8=.int .i64 (i:Int)/\Hid (EL w.heap.size (w.heap.size+1) w.heap.size x.heap.size f w (M.bI M.start (M.A9 (f.data.toList.take i))) (M.X6 M.start (M.A9 (f.data.toList.take i))) wr))
 case atStart=>
  refine ⟨0,by omega,rfl,Lib.hid ⟨⟨none,hE.out.grow (n7.alloc _ _)⟩,(n7.alloc _ _).block hs.out,hwb.out,hb.out.trans (Below.mono (show Below x.heap.size _ _ from n7.alloc _ _) (by omega))⟩⟩
 case round=>
  obtain ⟨i,hik,rfl,HR⟩:=hrel
  clear hE hb hs hwb c1
  have hws:=HR.out.wbsz
  cases gk with
  |zero=>
   obtain rfl:i=f.size:=by omega
   obtain ⟨ro,hW⟩:=HR.out.ws
   have d3:wr.cell? ⟨x.heap.size,0,none⟩=some (.pointer (some ⟨w.heap.size+1,0,none⟩)):=by rw[cell_of_row wr _ 0 _ _ _ HR.out.wb];rfl
   have htk:f.data.toList.take f.size=f.data.toList:=List.take_of_length_le (by simp[<-ByteArray.size_data])
   have hlen:=M.T3 (M.A9 f.data.toList) M.start
   rw[M.V6] at hlen
   have hfl:f.data.toList.length=f.size:=by simp[<-ByteArray.size_data]
   have HY:=Lib.hid (Pg hW (by rw[htk];omega))
   have HX:=Lib.hid (And.intro htk HR.out.below)
   clear HR hW htk hlen hfl
   go_wp2_with fail
   refine HY.out.mono ?_
   rintro e y ⟨rfl,hgy⟩
   obtain ⟨htk,hbe⟩:=HX.out
   rw[htk]
   go_wp2
   go_ret
   exact ⟨rfl,hbe.trans (Below.mono hgy hbe.size)⟩
  |succ k=>
   have hlt:i<f.size:=by omega
   have hlen:=M.T3 (M.A9 (f.data.toList.take i)) M.start
   rw[M.V6] at hlen
   have htl:(f.data.toList.take i).length<=i:=by rw[List.length_take];omega
   have HE:=Lib.hid (zM 155 _ _ _ _ (Lib.hid (c2w (B:=w.heap.size) (g:=w.heap.size+1) (sb:=w.heap.size) (ib:=wr.heap.size) (wb:=x.heap.size) hlt (w0:=w) (s:=M.bI M.start (M.A9 (f.data.toList.take i))) (l:=M.X6 M.start (M.A9 (f.data.toList.take i))) (by omega))) _ ⟨by omega,by simpa [Ai,M.bI,M.X6] using HR.out.ei i⟩)
   clear hlen htl HR
   go_wp2_with fail
   refine HE.out.mono ?_
   rintro e y ⟨rfl,_,hI⟩
   replace hI:=Lib.hid hI.el
   go_wp2
   go_roundg k
   case measure=>omega
   case rel=>
    refine ⟨i+1,by omega,by rw[Int.natCast_add];rfl,?_⟩
    have h2:=hI.out
    rw[c0t,<-M.Q1,<-M.P8,<-dN f i hlt] at h2
    exact Lib.hid h2
end
end Cod
end
section
namespace Cod
section
theorem gN:(prog.info? 101).map (·.size)=some 2:=by kernel_rfl
theorem uD:liesAt prog prog.depth 101 (2 / prog.cellsOf 101) 0 101 1=true:=by kernel_rfl
theorem tQ (b:Nat) (v:Value) (w:World) (h:w.heap[b]? = some (.cells #[.pointer (some ⟨b,0,none⟩),v] 101 (0,0))) :
  Calls prog 110 #[.pointer (some ⟨b,0,none⟩)] w fun e w'=>e=.returned (.tuple #[])/\w'=w:=by
 obtain ⟨j,hj,_⟩:=Option.map_eq_some_iff.1 gN
 have h0:w.cell? ⟨b,0,none⟩=some (.pointer (some ⟨b,0,none⟩)):=by rw[Lib.cell_of_heap h];rfl
 go_enter func110,ntmps110
 go_wp2
 rw[Lib.run_neq_ptr_same w _ underlying99 hj]
 go_wp2
 refine bodyPost_end (results_none rfl _ _ _) rfl ⟨rfl,rfl⟩
theorem oO (b:Nat) (v:Value) (w:World) (h:w.heap[b]? = some (.cells #[.pointer none,v] 101 (0,0))) :
  Calls prog 110 #[.pointer (some ⟨b,0,none⟩)] w fun e w'=>e=.returned (.tuple #[])/\w'=w.setCell ⟨b,0,none⟩ (.pointer (some ⟨b,0,none⟩)):=by
 obtain ⟨j,hj,hjs⟩:=Option.map_eq_some_iff.1 gN
 have h0:w.cell? ⟨b,0,none⟩=some (.pointer none):=by rw[Lib.cell_of_heap h];rfl
 have hfz:w.frozen? ⟨b,0,none⟩=false:=Lib.frozen_of_heap h 0
 have hsh:w.shape? b=some (101,2):=by simp[World.shape?,h]
 clear h
 go_enter func110,ntmps110
 go_wp2
 rw[Lib.run_to_unsafe w ⟨b,0,none⟩ underlying99 underlying185 hj (by rw[hjs];decide) hsh (Nat.zero_lt_succ 1)]
 simp only[Result.andThen]
 rw[Oper.upon_value]
 go_wp2
 rw[run_callFunc_extern func145 (by kernel_rfl) (by kernel_rfl) (by kernel_rfl) (e:=Extern.AbiNoEscape.same) (by kernel_rfl)]
 rw[Lib.run_noEscape]
 simp only[Result.andThen]
 rw[Oper.upon_value]
 go_wp2
 rw[Lib.run_from_unsafe w ⟨b,0,none⟩ underlying185 underlying99 hj hsh uD]
 simp only[Result.andThen]
 rw[Oper.upon_value]
 go_wp2
 refine bodyPost_end (results_none rfl _ _ _) rfl ⟨rfl,rfl⟩
structure HB (b:Nat) (l:List UInt8) (w:World):Prop where
 ex:∃p v,w.heap[b]? = some (.cells #[p,v] 101 (0,0))/\(p=.pointer none\/p=.pointer (some ⟨b,0,none⟩))/\w.ownsRow (b+1) 5 1 v l.length (t4 l)/\(l=[]->v=.slice none 0 0)
theorem b6j (b:Nat) (l:List UInt8) (c:UInt8) (w:World) (h:HB b l w) (hl:l.length<=100000000) :
  Calls prog 197 #[.pointer (some ⟨b,0,none⟩),.int .u8 (c.toNat:Int)] w fun e w'=>e=.returned .nilIface/\HB b (l++[c]) w'/\Below b w w':=by
 obtain ⟨p,v,h1,h2,h3,h4⟩:=h.ex
 have hlt:b<w.heap.size:=(Array.getElem?_eq_some_iff.1 h1).1
 have hck:Calls prog 110 #[.pointer (some ⟨b,0,none⟩)] w fun e w'=>e=.returned (.tuple #[])/\w'.heap[b]? = some (.cells #[.pointer (some ⟨b,0,none⟩),v] 101 (0,0))/\w'.ownsRow (b+1) 5 1 v l.length (t4 l)/\Below b w w'/\b<w'.heap.size:=by
  rcases h2 with rfl|rfl
  ·refine (oO b v w h1).mono ?_
   rintro e w' ⟨rfl,rfl⟩
   refine ⟨rfl,?_,?_,(Below.refl b w).setCell (p:=⟨b,0,none⟩) (Nat.le_refl _) _,by simpa [World.setCell] using hlt⟩
   ·simp[World.setCell,Array.getElem?_modify,h1]
   ·refine h3.kept (row:=some b) ⟨rfl,rfl,rfl,by simp[World.setCell],fun k _ hk=>Below.heap_setCell _ _ _ _ (fun e=>hk (by simp[e]))⟩ (Or.inr ?_)
    exact (H9 h3 h1 (by decide)).symm
  ·refine (tQ b v w h1).mono ?_
   rintro e w' ⟨rfl,rfl⟩
   exact ⟨rfl,h1,h3,Below.refl b _,hlt⟩
 have HC:=Lib.hid hck
 clear hck h1 h2 h3 h4 h
 go_enter func197,ntmps197
 go_wp2_with fail
 refine HC.out.mono ?_
 rintro e W ⟨rfl,h1,h2,h3,h4⟩
 clear HC
 have c1:W.cell? ⟨b,1,none⟩=some v:=by rw[Lib.cell_of_heap h1];rfl
 replace h1:=Lib.hid h1
 replace h3:=Lib.hid h3
 go_wp2_with (at_builtin;refine fQ _ rfl _ _ 57 5 rfl underlying57 (.int .u8 0) 1 eJ rfl (b+1) _ _ _ rfl h2 _ _ rfl rfl (by omega) (by omega) (by omega) ?_)
 intro v' W2 hown hnil hbl hsz
 have h12:W2.heap[b]? = some (.cells #[.pointer (some ⟨b,0,none⟩),v] 101 (0,0)):=by rw[hbl.block b (by omega)];exact h1.out
 have d1:W2.cell? ⟨b,1,none⟩=some v:=by rw[Lib.cell_of_heap h12];rfl
 have f1:W2.frozen? ⟨b,1,none⟩=false:=Lib.frozen_of_heap h12 1
 obtain ⟨so,sc,hv⟩:=G6 hown
 subst hv
 have HB2:Hid (HB b (l++[c]) (W2.setCell ⟨b,1,none⟩ (.slice so (l.length+1) sc))):=by
  refine Lib.hid ⟨_,.slice so (l.length+1) sc,?_,.inr rfl,?_,fun e=>by simp at e⟩
  ·simp[World.setCell,Array.getElem?_modify,h12]
  ·rw[C3,List.length_append]
   refine hown.kept (row:=some b) ⟨rfl,rfl,rfl,by simp[World.setCell],fun k _ hk=>Below.heap_setCell _ _ _ _ (fun e=>hk (by simp[e]))⟩ (Or.inr ?_)
   exact (H9 hown h12 (by decide)).symm
 have HW:Hid (Below b w (W2.setCell ⟨b,1,none⟩ (.slice so (l.length+1) sc))):=by
  refine Lib.hid ((h3.out.trans ?_).setCell (p:=⟨b,1,none⟩) (Nat.le_refl _) _)
  exact ⟨hbl.os,hbl.tape,hbl.output,hbl.size,fun k hk=>hbl.block k (by omega)⟩
 clear hown h12 hbl h1 h3
 go_wp2
 go_ret
 exact ⟨rfl,HB2.out,HW.out⟩
structure HF (b:Nat) (l:List UInt8) (w:World):Prop where
 ex:∃p v,w.heap[b]? = some (.cells #[p,v] 101 (0,0))/\((l=[]/\v=.slice none 0 0)\/(l≠[]/\∃g cap cur fr,v=.slice (some ⟨g,0,none⟩) l.length cap/\b+1<=g/\w.heap[g]? = some (.cells cur 5 fr)/\l.length<=cap/\cap<=maxLen/\cur.size=cap/\cur.toList.take l.length=t4 l))
theorem HF.grow {b l w w'} (h:HF b l w) (k:n7 w w'):HF b l w':=by
 obtain ⟨p,v,h1,h2⟩:=h.ex
 refine ⟨p,v,k.block h1,h2.imp id ?_⟩
 rintro ⟨h0,g,cap,cur,fr,r1,r2,r3,r4⟩
 exact ⟨h0,g,cap,cur,fr,r1,r2,k.block r3,r4⟩
theorem HB.hf {b l w} (h:HB b l w):HF b l w:=by
 obtain ⟨p,v,h1,h2,h3,h4⟩:=h.ex
 refine ⟨p,v,h1,?_⟩
 by_cases h0:l=[]
 ·exact .inl ⟨h0,h4 h0⟩
 ·refine .inr ⟨h0,?_⟩
  rcases h3.2 with ⟨_,hz⟩|⟨g,cap,cur,r1,r2,r3,r4,r5,r6,r7⟩
  ·exact absurd (List.length_eq_zero_iff.1 hz) h0
  ·exact ⟨g,cap,cur,(0,0),r1,r2,r3,r4,r5,by omega,by simpa using r7⟩
theorem tZ:prog.cellsOf 5=1:=by kernel_rfl
theorem Z4 {w:World} {g n:Nat} {cur:Array Value} {t fr} (hg:w.heap[g]? = some (.cells cur t fr)):∃fr',(w.freeze ⟨g,0,none⟩ n).heap[g]? = some (.cells cur t fr'):=by
 unfold World.freeze
 split
 ·exact ⟨fr,hg⟩
 ·simp only[Array.getElem?_modify]
  simp[hg]
theorem R8 {w:World} {g n k:Nat} (h:k≠g):(w.freeze ⟨g,0,none⟩ n).heap[k]? = w.heap[k]?:=by
 unfold World.freeze
 split
 ·rfl
 ·simp only[Array.getElem?_modify]
  simp[Ne.symm h]
theorem fX (b:Nat) (l:List UInt8) (w:World) (h:HF b l w) :
  Calls prog 54 #[.pointer (some ⟨b,0,none⟩)] w fun e w'=>e=.returned (.string ⟨l.toArray⟩)/\HF b l w'/\Below (b+1) w w':=by
 obtain ⟨p,v,h1,h2|⟨h0,g,cap,cur,fr,rfl,r2,r3,r4,r5,r6,r7⟩⟩:=h.ex
 ·obtain ⟨rfl,rfl⟩:=h2
  have hf:HF b [] w.drew:=⟨h.ex⟩
  have c1:w.drew.cell? ⟨b,1,none⟩=some (.slice none 0 0):=by
   have:w.drew.heap[b]? = some (.cells #[p,.slice none 0 0] 101 (0,0)):=h1
   rw[Lib.cell_of_heap this];rfl
  have hSD:(Builtin.unsafeSliceData_ #[57] 171 #[.slice none 0 0]).run prog w.drew=.ok (.pointer none) w.drew:=rfl
  have hUS:(Builtin.unsafeString_ #[171,3] 9 #[.pointer none,.int .i64 0]).run prog w.drew=.ok (.string .empty) w.drew:=Lib.run_unsafeString_none _ _ _ _ _
  clear h h1
  go_enter func54,ntmps54
  go_wp2
  go_region
  all_goals (go_wp2;go_ret;exact ⟨rfl,hf,Below.drew (Below.refl _ w)⟩)
 ·have hl:0<l.length:=by cases l with|nil=>exact absurd rfl h0|cons=>simp
  have c1:w.drew.cell? ⟨b,1,none⟩=some (.slice (some ⟨g,0,none⟩) l.length cap):=by
   have:w.drew.heap[b]? = some (.cells #[p,.slice (some ⟨g,0,none⟩) l.length cap] 101 (0,0)):=h1
   rw[Lib.cell_of_heap this];rfl
  have hSD:(Builtin.unsafeSliceData_ #[57] 171 #[.slice (some ⟨g,0,none⟩) l.length cap]).run prog w.drew=.ok (.pointer (some ⟨g,0,none⟩)) w.drew:=
   Lib.run_unsafeSliceData_row _ _ _ _ _ _ (by omega)
  have hUS:(Builtin.unsafeString_ #[171,3] 9 #[.pointer (some ⟨g,0,none⟩),.int .i64 l.length]).run prog w.drew=.ok (.string ⟨l.toArray⟩) (w.drew.freeze ⟨g,0,none⟩ l.length):=by
   refine Lib.run_unsafeString_row w.drew 171 3 9 5 underlying171 tZ g cur.size (by have hg':w.drew.heap[g]? = some (.cells cur 5 fr):=r3;simp[World.shape?,hg']) l h0 (by omega) (by unfold maxLen at r5;omega) ?_
   intro j x hx
   have hj:j<l.length:=(List.getElem?_eq_some_iff.1 hx).1
   have hg':w.drew.heap[g]? = some (.cells cur 5 fr):=r3
   have e:(⟨g,0,none⟩:Addr).add j=⟨g,j,none⟩:=by unfold Addr.add;split<;>simp_all
   rw[e,Lib.cell_of_heap hg']
   have h3:(cur.toList.take l.length)[j]? = some (.int .u8 x.toNat):=by rw[r7];simp[t4,hx]
   rw[List.getElem?_take,if_pos hj,Array.getElem?_toList] at h3
   exact h3
  have hf:HF b l (w.drew.freeze ⟨g,0,none⟩ l.length):=by
   obtain ⟨fr',h5⟩:=Z4 (w:=w.drew) (n:=l.length) r3
   refine ⟨p,_,?_,.inr ⟨h0,g,cap,cur,fr',rfl,r2,h5,r4,r5,r6,r7⟩⟩
   rw[R8 (by omega)];exact h1
  clear h h1 r3 r4 r5 r6 r7
  go_enter func54,ntmps54
  go_wp2
  go_region
  all_goals (go_wp2;go_ret;exact ⟨rfl,hf,Lib.below_freeze (Below.drew (Below.refl _ w)) (p:=⟨g,0,none⟩) r2 _⟩)
end
section
structure DI (g rb bb:Nat) (f:ByteArray) (a:Nat) (m:Nat) (s:M.St) (w1 w:World):Prop where
 rs:RS g f m s w
 hrb:w.heap[rb]? = some (.cells #[.pointer (some ⟨g,0,none⟩)] 246 (0,0))
 hbb:w.heap[bb]? = some (.cells #[.int .u8 (a:Int)] 5 (0,0))
 chg:Chg g none w1 w
 lt:w1.heap.size<=bb
theorem d1q {g rb bb:Nat} {f:ByteArray} {c m:Nat} {s:M.St} {w1:World} (w:World) (k:Nat) (hk:k<8) (h1:2 ^ k<=c) (h2:c<2 ^ (k+1)) (h:DI g rb bb f (M.B3 c k) m s w1 w) (hm:m<=90000000) (hf:f.size<=1000000000000000) :
  Calls prog 195 #[.int .i64 (7-(k:Int)),.int .i64 (c:Int),.pointer (some ⟨rb,0,none⟩),.pointer (some ⟨bb,0,none⟩)] w fun e w'=>
   e=.returned (.int .i64 (M.rb s c (M.val f.data.toList m)))/\DI g rb bb f (M.B3 (2*c+(M.rb s c (M.val f.data.toList m)).toNat) (k+1)) (m+(M.M2 s c (M.rb s c (M.val f.data.toList m))).length) (M.nxt s c (M.rb s c (M.val f.data.toList m))) w1 w':=by
 have hc256:c<256:=Nat.lt_of_lt_of_le h2 (show 2 ^ (k+1)<=2 ^ 8 from Nat.pow_le_pow_right (by decide) (by omega))
 have hcx:cx (c:Int)=c:=by unfold cx;omega
 have hr:=b2v h.rs (c:Int) hm hf
 unfold nb at hr
 rw[hcx] at hr
 have d1:w.cell? ⟨rb,0,none⟩=some (.pointer (some ⟨g,0,none⟩)):=by rw[cell_of_row w rb 0 _ _ _ h.hrb];rfl
 obtain ⟨b,hb⟩:∃b:Nat,M.rb s c (M.val f.data.toList m)=b:=by
  rcases M.rJ s c (M.val f.data.toList m) with e|e
  ·exact ⟨0,e⟩
  ·exact ⟨1,e⟩
 have hb1:b<=1:=by rcases M.rJ s c (M.val f.data.toList m) with e|e<;>omega
 rw[hb] at hr⊢
 have hbt:(b:Int).toNat=b:=rfl
 rw[hbt]
 obtain ⟨a1,a2,a3,a4⟩:=M.Ph c k b hk h1 h2 hb1
 rw[a1]
 clear a1
 have HR:=Lib.hid hr
 have HD:=Lib.hid h
 clear hr h
 have hor:=u8_or_nat (M.B3 c k) (b*2 ^ (7-k)) a3 a4
 rw[a2] at hor
 generalize M.B3 c k=a at *
 go_enter func195,ntmps195
 go_wp2_with fail
 refine HR.out.mono ?_
 rintro e x ⟨rfl,hrs,hchg⟩
 have hne:rb≠g:=by
  obtain ⟨_,_,hx⟩:=HD.out.rs.ex
  exact jC hx HD.out.hrb (by decide)
 have hne2:bb≠g:=by
  obtain ⟨_,_,hx⟩:=HD.out.rs.ex
  exact jC hx HD.out.hbb (by decide)
 have x1:x.heap[rb]? = some (.cells #[.pointer (some ⟨g,0,none⟩)] 246 (0,0)):=by rw[hchg.block _ (Array.getElem?_eq_some_iff.1 HD.out.hrb).1 hne (by simp)];exact HD.out.hrb
 have x2:x.heap[bb]? = some (.cells #[.int .u8 (a:Int)] 5 (0,0)):=by rw[hchg.block _ (Array.getElem?_eq_some_iff.1 HD.out.hbb).1 hne2 (by simp)];exact HD.out.hbb
 have d2:x.cell? ⟨bb,0,none⟩=some (.int .u8 (a:Int)):=by rw[cell_of_row x bb 0 _ _ _ x2];rfl
 have f2:x.frozen? ⟨bb,0,none⟩=false:=frozen_of_row x bb 0 _ _ x2
 have HX:=Lib.hid (And.intro hrs (And.intro x1 (And.intro x2 (HD.out.chg.trans (.inl rfl) hchg))))
 have hlt:=HD.out.lt
 clear hrs x1 x2 hchg HR d1
 go_upto_region 2 with fail
 refine Y2 (C:=fun y=>∃n,y=x.drewN n) rfl (by kernel_rfl) (by kernel_rfl) (by kernel_rfl) (by kernel_rfl) rfl rfl ⟨1,rfl⟩ ?_
 simp only[V8,List.dropLast,List.cons_append,List.nil_append]
 repeat (first
  |go_big_quiet_skip
  |(go_big_quiet_want;refine aV ?_;apply Exists.intro;refine ⟨fun x hx=>?_,?_⟩;(focus (obtain ⟨n,rfl⟩:=hx;go_simp<;>rfl));simp only[Act.put,List.setIfInBounds_toArray,List.set_cons_zero,List.set_cons_succ];go_big_quiet_on))
 refine wpQuiet_nil ?_
 rintro y ⟨n,rfl⟩
 have hw0:IntKind.u8.wrap (b:Int)=b:=by rw[IntKind.wrap_u8];omega
 have hw1:IntKind.u8.wrap ((b:Int)*2 ^ (7-k))=((b*2 ^ (7-k):Nat):Int):=by
  have e:((b:Int)*2 ^ (7-k))=((b*2 ^ (7-k):Nat):Int):=by rw[Int.natCast_mul,Int.natCast_pow];rfl
  rw[e,IntKind.wrap_u8]
  generalize b*2 ^ (7-k)=z at *
  omega
 rw[hw0,hw1,hor]
 clear hw0 hw1 hor a2 a3 a4
 generalize hz:b*2 ^ (7-k)=z at *
 replace hz:=Lib.hid hz
 replace HX:=Lib.hid (show RS g f _ _ (x.drewN n)/\(x.drewN n).heap[rb]? = some (.cells #[.pointer (some ⟨g,0,none⟩)] 246 (0,0))/\(x.drewN n).heap[bb]? = some (.cells #[.int .u8 (a:Int)] 5 (0,0))/\Chg g none w1 (x.drewN n) from
  ⟨⟨HX.out.1.ok,HX.out.1.ex⟩,HX.out.2.1,HX.out.2.2.1,⟨HX.out.2.2.2.os,HX.out.2.2.2.tape,HX.out.2.2.2.output,HX.out.2.2.2.size,HX.out.2.2.2.block⟩⟩)
 replace d2:(x.drewN n).cell? ⟨bb,0,none⟩=some (.int .u8 (a:Int)):=d2
 replace f2:(x.drewN n).frozen? ⟨bb,0,none⟩=false:=f2
 generalize x.drewN n=y at *
 obtain ⟨y1,y2,y3,y4⟩:=HX.out
 have hrb:rb≠bb:=by
  intro e
  rw[e,y3] at y2
  injection y2 with y2
  injection y2 with _ y2 _
  exact absurd y2 (by decide)
 have HF:Hid (DI g rb bb f (a+z) (m+(M.M2 s c (b:Int)).length) (M.nxt s c (b:Int)) w1 (y.setCell ⟨bb,0,none⟩ (.int .u8 ((a:Int)+(z:Int))))):=by
  refine Lib.hid ⟨⟨y1.ok,?_⟩,?_,?_,⟨y4.os,y4.tape,y4.output,by simp[World.setCell];exact y4.size,fun j hj hg hr=>by rw[heap_setCell_other _ _ _ _ (by show j≠bb;omega)];exact y4.block j hj hg hr⟩,hlt⟩
  ·obtain ⟨n',e',hx⟩:=y1.ex
   exact ⟨n',e',hx.other _ _ (Ne.symm hne2)⟩
  ·rw[heap_setCell_other _ _ _ _ (by simpa using hrb)];exact y2
  ·simp[World.setCell,Array.getElem?_modify,y3]
 clear HX HD y1 y2 y3 y4
 go_wp2
 go_ret
 exact ⟨rfl,by rw[hz.out];exact HF.out⟩
end
section
theorem RS.below {g f m s w w' N} (h:RS g f m s w) (k:Below N w w') (hg:g<N):RS g f m s w':=by
 obtain ⟨n,h0,x1⟩:=h.ex
 refine ⟨h.ok,n,h0,?_⟩
 have:=k.block g hg
 unfold n6 at x1⊢;rw[this];exact x1
theorem b9s {g rb bb:Nat} {f:ByteArray} {m:Nat} {s:M.St} {w1:World} (hs:M.Ok s) (hm:m<=80000000) (hf:f.size<=1000000000000000) :
  CbE 195 #[.pointer (some ⟨rb,0,none⟩),.pointer (some ⟨bb,0,none⟩)] (fun k=>((M.Z3 f.data.toList k 1 s m).1:Int)) (fun k=>M.rb (M.Z3 f.data.toList k 1 s m).2.1 (M.Z3 f.data.toList k 1 s m).1 (M.val f.data.toList (M.Z3 f.data.toList k 1 s m).2.2))
   (fun k w=>k<=8/\DI g rb bb f (M.B3 (M.Z3 f.data.toList k 1 s m).1 k) (M.Z3 f.data.toList k 1 s m).2.2 (M.Z3 f.data.toList k 1 s m).2.1 w1 w) where
 enters:=qR func195 (by kernel_rfl) rfl
 start:=rfl
 next:=fun k hk=>by
  rw[M.bV]
  show ((2*(M.Z3 f.data.toList k 1 s m).1+(M.rb _ _ _).toNat:Nat):Int)=_
  have:=M.rJ (M.Z3 f.data.toList k 1 s m).2.1 (M.Z3 f.data.toList k 1 s m).1 (M.val f.data.toList (M.Z3 f.data.toList k 1 s m).2.2)
  omega
 bit:=fun k hk=>M.rJ _ _ _
 call:=fun k w hk h=>by
  obtain ⟨b1,b2,b3,b4⟩:=M.oQ f.data.toList s m hs k
  refine (d1q w k hk b1 b2 h.2 (by omega) hf).mono ?_
  rintro e w' ⟨rfl,hd⟩
  refine ⟨rfl,by omega,?_⟩
  rw[M.bV]
  exact hd
def gI (f:ByteArray) (n:Nat):ByteArray×Int:=if (⟨(M.enc (M.X7 f.data.toList n)).toArray⟩:ByteArray)=f then (⟨(M.X7 f.data.toList n).toArray⟩,0) else (⟨#[]⟩,11)
structure DL (w0:World) (g rb ob:Nat) (f:ByteArray) (l:List UInt8) (m:Nat) (s:M.St) (w:World):Prop where
 rs:RS g f m s w
 hrb:w.heap[rb]? = some (.cells #[.pointer (some ⟨g,0,none⟩)] 246 (0,0))
 hb:HB ob l w
 below:Below w0.heap.size w0 w
 g1:w0.heap.size<=g
 g2:g<ob
 r2:rb<ob
theorem HB.lt {b l w} (h:HB b l w):b<w.heap.size:=by
 obtain ⟨p,v,h1,_⟩:=h.ex
 exact (Array.getElem?_eq_some_iff.1 h1).1
theorem HB.chg {b l w w' g} (h:HB b l w) (k:Chg g none w w') (hg:b≠g) (hr:∀c fr,w.heap[g]?≠some (.cells c 5 fr)):HB b l w':=by
 obtain ⟨p,v,h1,h2,h3,h4⟩:=h.ex
 have hl:b<w.heap.size:=(Array.getElem?_eq_some_iff.1 h1).1
 refine ⟨p,v,by rw[k.block b hl hg (by simp)];exact h1,h2,?_,h4⟩
 obtain ⟨y1,y2⟩:=h3
 refine ⟨y1,y2.imp id ?_⟩
 rintro ⟨j,cap,cur,e1,e2,e3,e4⟩
 refine ⟨j,cap,cur,e1,e2,?_,e4⟩
 rw[k.block j (Array.getElem?_eq_some_iff.1 e3).1 (fun e=>hr cur _ (e▸e3)) (by simp)];exact e3
theorem DL.di {w0 g rb ob f l m s w} (h:DL w0 g rb ob f l m s w):DI g rb w.heap.size f (M.B3 1 0) m s w (w.alloc (.cells #[.int .u8 0] 5)):=
 ⟨h.rs.grow (n7.alloc _ _),(n7.alloc _ _).block h.hrb,heap_alloc_new _ _,Chg.of_grow (n7.alloc _ _),Nat.le_refl _⟩
theorem DL.dl {w0 g rb ob f l m s w bb a m' s' w'} (h:DL w0 g rb ob f l m s w) (k:DI g rb bb f a m' s' w w'):DL w0 g rb ob f l m' s' w':=by
 refine ⟨k.rs,k.hrb,?_,h.below.trans (k.chg.below h.g1 (by simp) h.below.size),h.g1,h.g2,h.r2⟩
 refine h.hb.chg k.chg (by have:=h.g2;omega) ?_
 intro c fr e
 obtain ⟨_,_,hx⟩:=h.rs.ex
 unfold n6 at hx
 rw[hx] at e
 injection e with e
 injection e with _ e _
 exact absurd e (by decide)
theorem DL.wb {w0 g rb ob f l m s w l' w'} (h:DL w0 g rb ob f l m s w) (k:HB ob l' w') (hb:Below ob w w'):DL w0 g rb ob f l' m s w':=
 ⟨h.rs.below hb h.g2,by rw[hb.block rb h.r2];exact h.hrb,k,h.below.trans (hb.mono (by have:=h.g1;have:=h.g2;omega)),h.g1,h.g2,h.r2⟩
theorem qN (a b:ByteArray):(a.toList==b.toList)=decide (a=b):=by
 by_cases h:a=b
 ·subst h;simp
 ·simp only[h,decide_false]
  have:a.toList≠b.toList:=by
   intro e
   rw[ByteArray.toList_eq,ByteArray.toList_eq] at e
   exact h (ByteArray.ext (Array.toList_inj.mp e))
  simpa using this
theorem O7 (f:ByteArray) (n:Nat) (hn:n<=65536) (hf:f.size<=1000000000000000) (w:World) :
  Calls prog 172 #[.string f,.int .i64 (n:Int)] w fun e w'=>e=.returned (.tuple #[.string (gI f n).1,.int .i64 (gI f n).2])/\n7 w w':=by
 have HN:=Lib.hid (tO f w)
 have n1:¬(n:Int)<0:=by omega
 have n2:¬(n:Int)>65536:=by omega
 go_enter func172,ntmps172
 go_wp2_with fail
 refine HN.out.mono ?_
 rintro e x ⟨rfl,hr,hg⟩
 have hx:=hr.lt
 replace hr:=Lib.hid hr
 replace hg:=Lib.hid hg
 clear HN
 go_upto_block 1 with fail
 obtain ⟨gr,hgr⟩:∃gr,gr=w.heap.size:=⟨_,rfl⟩
 obtain ⟨rb,hrb⟩:∃rb,rb=x.heap.size:=⟨_,rfl⟩
 have hD:Hid (DL w gr rb (rb+1) f (M.V1 f.data.toList 0 M.start 0).1 (M.V1 f.data.toList 0 M.start 0).2.2 (M.V1 f.data.toList 0 M.start 0).2.1 ((x.alloc (.cells #[.pointer (some ⟨gr,0,none⟩)] 246)).alloc (.cells #[.pointer none,.slice none 0 0] 101))):=by
  have z1:(x.alloc (.cells #[.pointer (some ⟨gr,0,none⟩)] 246)).heap[rb]? = some (.cells #[.pointer (some ⟨gr,0,none⟩)] 246 (0,0)):=by rw[hrb];exact heap_alloc_new _ _
  have z2:((x.alloc (.cells #[.pointer (some ⟨gr,0,none⟩)] 246)).alloc (.cells #[.pointer none,.slice none 0 0] 101)).heap[rb+1]? = some (.cells #[.pointer none,.slice none 0 0] 101 (0,0)):=by
   have:=heap_alloc_new (x.alloc (.cells #[.pointer (some ⟨gr,0,none⟩)] 246)) (.cells #[.pointer none,.slice none 0 0] 101)
   rw[hrb];simpa using this
  refine Lib.hid ⟨?_,(n7.alloc _ _).block z1,⟨_,_,z2,.inl rfl,⟨rfl,.inl ⟨rfl,rfl⟩⟩,fun _=>rfl⟩,?_,by omega,by omega,by omega⟩
  ·rw[hgr];exact (hr.out.grow (n7.alloc _ _)).grow (n7.alloc _ _)
  ·refine hg.out.trans (Below.mono (show Below x.heap.size _ _ from ?_) (by omega))
   exact (n7.alloc x _).trans (Below.mono (n7.alloc _ _) (by simp))
 rw[<-hrb,<-hgr]
 replace hgr:=Lib.hid hgr
 replace hrb:=Lib.hid hrb
 generalize hW:(x.alloc (.cells #[.pointer (some ⟨gr,0,none⟩)] 246)).alloc (.cells #[.pointer none,.slice none 0 0] 101)=W at hD⊢
 clear hr hg hx hW
 go_loopg [18] n (fun k s18 wr=>∃i,i+k=n/\s18=.int .i64 (i:Int)/\Hid (DL w gr rb (rb+1) f (M.V1 f.data.toList i M.start 0).1 (M.V1 f.data.toList i M.start 0).2.2 (M.V1 f.data.toList i M.start 0).2.1 wr))
 case atStart=>exact ⟨0,by omega,rfl,hD⟩
 case round=>
  obtain ⟨i,hik,rfl,HR⟩:=hrel
  clear hD
  have hws:=HR.out.hb.lt
  obtain ⟨q1,q2⟩:=M.Bx f.data.toList i
  cases gk with
  |zero=>
   obtain rfl:i=n:=by omega
   have hlt:¬(i:Int)<i:=by omega
   have hll:=M.gF f.data.toList i M.start 0
   have hL:(M.V1 f.data.toList i M.start 0).1=M.X7 f.data.toList i:=rfl
   rw[hL] at hll HR
   have HB:=Lib.hid (fX (rb+1) (M.X7 f.data.toList i) wr HR.out.hb.hf)
   have hbe:=Lib.hid HR.out.below
   have hg1:=HR.out.g1
   have hg2:=HR.out.g2
   clear HR q1 q2 hL
   have hds:gI f i=if (⟨(M.enc (M.X7 f.data.toList i)).toArray⟩:ByteArray)=f then (⟨(M.X7 f.data.toList i).toArray⟩,0) else (⟨#[]⟩,11):=rfl
   replace hds:=Lib.hid hds
   generalize M.X7 f.data.toList i=l at *
   have hls:(⟨l.toArray⟩:ByteArray).size<=2500000:=by show l.toArray.size<=_;simp;omega
   go_wp2_with fail
   refine HB.out.mono ?_
   rintro e y ⟨rfl,hF,hy⟩
   have HE:=Lib.hid (Cw ⟨l.toArray⟩ y hls)
   replace hF:=Lib.hid hF
   replace hy:=Lib.hid hy
   clear HB
   go_wp2_with fail
   refine HE.out.mono ?_
   rintro e z ⟨rfl,hz⟩
   have HB3:=Lib.hid (fX (rb+1) l z (hF.out.grow hz))
   have hbz:=Lib.hid (hbe.out.trans ((hy.out.mono (by omega)).trans (Below.mono (show Below y.heap.size y z from hz) (Nat.le_trans hbe.out.size hy.out.size))))
   clear HE hF hy hz hbe
   generalize hQ:(⟨(M.enc l).toArray⟩:ByteArray)=q at *
   clear hQ
   by_cases hq:q=f
   ·go_wp2_with fail
    refine HB3.out.mono ?_
    rintro e u ⟨rfl,_,hu⟩
    replace hu:=Lib.hid hu
    go_wp2
    go_ret2
    exact ⟨by rw[hds.out,if_pos hq];rfl,hbz.out.trans (hu.out.mono (by omega))⟩
   ·have hql:(q.toList==f.toList)=false:=by rw[qN];exact decide_eq_false hq
    go_wp2
    go_ret2
    exact ⟨by rw[hds.out,if_neg hq];rfl,hbz.out⟩
  |succ k=>
   have hlt:i<n:=by omega
   have hm:(M.V1 f.data.toList i M.start 0).2.2<=80000000:=by omega
   have HE:=Lib.hid (zM 195 _ _ _ _ (Lib.hid (b9s (g:=gr) (rb:=rb) (bb:=wr.heap.size) (f:=f) (w1:=wr) q1 hm hf)) _ ⟨by omega,HR.out.di⟩)
   obtain ⟨b1,b2,b3,b4⟩:=M.oQ f.data.toList _ (M.V1 f.data.toList i M.start 0).2.2 q1 8
   have ha:=M.Xk _ b1 b2
   have HS:=Lib.hid (M.fB f.data.toList i M.start 0)
   have hll:=Lib.hid (M.gF f.data.toList i M.start 0)
   generalize M.V1 f.data.toList i M.start 0=T at *
   clear b1 b2 b3 b4 q1 q2 hm
   go_wp2_with fail
   refine HE.out.mono ?_
   rintro e y ⟨rfl,_,hI⟩
   have hD2:=Lib.hid (HR.out.dl hI)
   have d2:y.cell? ⟨wr.heap.size,0,none⟩=some (.int .u8 (((UInt8.ofNat (M.Z3 f.data.toList 8 1 T.2.1 T.2.2).1).toNat:Nat):Int)):=by rw[<-ha,cell_of_row y _ 0 _ _ _ hI.hbb];rfl
   have HB2:=Lib.hid (b6j (rb+1) _ (UInt8.ofNat (M.Z3 f.data.toList 8 1 T.2.1 T.2.2).1) y hD2.out.hb (by rw[hll.out];omega))
   clear hI HE HR ha
   go_wp2_with fail
   refine HB2.out.mono ?_
   rintro e z ⟨rfl,h1,h2⟩
   have hD3:=Lib.hid (hD2.out.wb h1 h2)
   clear h1 h2 hD2 HB2 d2
   go_wp2
   go_roundg k
   case measure=>omega
   case rel=>
    refine ⟨i+1,by omega,by rw[Int.natCast_add];rfl,?_⟩
    rw[HS.out]
    exact hD3
end
end Cod
end
section
namespace Prd
section
namespace M
def swM (r b:UInt8):UInt8:=b+(r-b) / 2
def swU (r b:UInt8):UInt8:=r-b
def swV (r g b:UInt8):UInt8:=g-swM r b
def swY (r g b:UInt8):UInt8:=swM r b+swV r g b / 2
def bkM (y v:UInt8):UInt8:=y-v / 2
def bkB (y u v:UInt8):UInt8:=bkM y v-u / 2
def bkR (y u v:UInt8):UInt8:=bkB y u v+u
def bkG (y v:UInt8):UInt8:=v+bkM y v
def W7 (l u c x:Int):Int:=max (l+u-c-x) (x-l-u+c)
def jQ (l u c:Int):Int:=
 if W7 l u c u<W7 l u c l then (if W7 l u c c<W7 l u c u then c else u)
 else (if W7 l u c c<W7 l u c l then c else l)
def cB (l u c:Int):Int:=max (min l u) (min (max l u) (l+u-c))
def vR (k:Nat) (l u c:Int):Int:=
 match k with
 |1=>l
 |2=>u
 |3=>(l+u) / 2
 |4=>jQ l u c
 |5=>cB l u c
 |_=>0
def Af (x:Int):Prop:=0<=x/\x<=255
theorem sC (k:Nat) (l u c:Int) (hl:Af l) (hu:Af u) (hc:Af c):Af (vR k l u c):=by
 unfold vR
 split
 ·exact hl
 ·exact hu
 ·unfold Af at *;omega
 ·unfold jQ;split<;>split<;>assumption
 ·unfold cB Af at *;omega
 ·exact ⟨by omega,by omega⟩
def nbL (p:Nat->UInt8) (i:Nat):Int:=if i=0 then 0 else if i<8 then (p (i-1)).toNat else if i % 8=0 then (p (i-8)).toNat else (p (i-1)).toNat
def nbU (p:Nat->UInt8) (i:Nat):Int:=if i=0 then 0 else if i<8 then (p (i-1)).toNat else (p (i-8)).toNat
def nbC (p:Nat->UInt8) (i:Nat):Int:=if i=0 then 0 else if i<8 then (p (i-1)).toNat else if i % 8=0 then (p (i-8)).toNat else (p (i-9)).toNat
theorem H3 (x:UInt8):Af (x.toNat:Int):=by have:=x.toNat_lt;unfold Af;omega
theorem cP:Af 0:=by unfold Af;omega
theorem b3s (p:Nat->UInt8) (i:Nat):Af (nbL p i):=by
 unfold nbL
 split
 ·exact cP
 split
 ·exact H3 _
 split<;>exact H3 _
theorem b1e (p:Nat->UInt8) (i:Nat):Af (nbU p i):=by
 unfold nbU
 split
 ·exact cP
 split<;>exact H3 _
theorem a9f (p:Nat->UInt8) (i:Nat):Af (nbC p i):=by
 unfold nbC
 split
 ·exact cP
 split
 ·exact H3 _
 split<;>exact H3 _
def gi (k:Nat) (p:Nat->UInt8) (i:Nat):Int:=vR k (nbL p i) (nbU p i) (nbC p i)
theorem a5g (k:Nat) (p:Nat->UInt8) (i:Nat):Af (gi k p i):=sC _ _ _ _ (b3s p i) (b1e p i) (a9f p i)
def gs (k:Nat) (p:Nat->UInt8) (i:Nat):UInt8:=UInt8.ofNat (gi k p i).toNat
theorem Nk (k:Nat) (p:Nat->UInt8) (i:Nat):((gs k p i).toNat:Int)=gi k p i:=by
 have h:=a5g k p i
 unfold Af at h
 unfold gs
 simp
 omega
def pl (p:Nat->UInt8) (q:Nat):Nat->UInt8:=fun i=>p (64*q+i)
def res (k:Nat) (p:Nat->UInt8) (j:Nat):UInt8:=p j-gs k (pl p (j / 64)) (j % 64)
def tab (n:Nat) (f:Nat->UInt8):List UInt8:=(List.range n).map f
theorem S9 (n:Nat) (f:Nat->UInt8):(tab n f).length=n:=by simp[tab]
theorem Gk (n:Nat) (f:Nat->UInt8) (i:Nat) (h:i<(tab n f).length):(tab n f)[i]=f i:=by simp[tab]
def put (p:Nat->UInt8) (j:Nat) (v:UInt8):Nat->UInt8:=fun i=>if i=j then v else p i
theorem Sd (p:Nat->UInt8) (j:Nat) (v:UInt8):put p j v j=v:=by simp[put]
theorem Jk (p:Nat->UInt8) (j:Nat) (v:UInt8) (i:Nat) (h:i≠j):put p j v i=p i:=by simp[put,h]
def vN (k:Nat) (s:Nat->UInt8):Nat->Nat->UInt8
 |0=>fun _=>0
 |n+1=>put (vN k s n) n (s n+gs k (pl (vN k s n) (n / 64)) (n % 64))
def cb (b:UInt8):Nat:=min b.toNat (256-b.toNat)
def Z8 (l:List UInt8):Nat:=(l.map cb).sum
theorem zC (l m:List UInt8):Z8 (l++m)=Z8 l+Z8 m:=by simp[Z8]
theorem rL (b:UInt8) (m:List UInt8):Z8 (b::m)=cb b+Z8 m:=by simp[Z8]
theorem a5y (b:UInt8):cb b<=128:=by have:=b.toNat_lt;unfold cb;omega
theorem Fm (l:List UInt8):Z8 l<=128*l.length:=by
 induction l with
 |nil=>simp[Z8]
 |cons b l ih=>rw[rL,List.length_cons];have:=a5y b;omega
end M
end
end Prd
end
section
namespace Prd
section
theorem F0 {k:IntKind} {a b:Int} (h:a=b):Ending.returned (.int k a)=.returned (.int k b):=by rw[h]
section
variable {P:Program}
end
section
variable {P:Program}
end
theorem yV (l:List UInt8):(⟨l.toArray⟩:ByteArray).size=l.length:=by
 simp[ByteArray.size]
end
section
theorem bt {w w1 w2:World} (h:Below w.heap.size w w1) (k:Below w1.heap.size w1 w2):Below w.heap.size w w2:=h.trans (k.mono h.size)
section
variable {P:Program} {ops:Array Oper} {C:World->Prop} {Q:Act->Prop} {rest:List Oper} {o:Oper} {a:Act}
end
end
section
theorem wG (a:UInt8):(a / 2).toNat=a.toNat / 2:=by rw[UInt8.toNat_div];rfl
theorem a5k (y v:UInt8):((y.toNat:Int)-(v.toNat:Int) / 2) % 256=((M.bkM y v).toNat:Int):=by
 have:=y.toNat_lt;have:=v.toNat_lt
 unfold M.bkM
 rw[UInt8.toNat_sub,wG];omega
theorem a5o (y u v:UInt8):(((y.toNat:Int)-(v.toNat:Int) / 2) % 256-(u.toNat:Int) / 2) % 256=((M.bkB y u v).toNat:Int):=by
 rw[a5k]
 have:=(M.bkM y v).toNat_lt;have:=u.toNat_lt
 unfold M.bkB
 rw[UInt8.toNat_sub,wG];omega
theorem c3d (y u v:UInt8):((((y.toNat:Int)-(v.toNat:Int) / 2-(u.toNat:Int) / 2) % 256+(u.toNat:Int)) % 256)=((M.bkR y u v).toNat:Int):=by
 have h:((y.toNat:Int)-(v.toNat:Int) / 2-(u.toNat:Int) / 2) % 256=((M.bkB y u v).toNat:Int):=by rw[<-a5o];omega
 rw[h]
 have:=(M.bkB y u v).toNat_lt;have:=u.toNat_lt
 unfold M.bkR
 rw[UInt8.toNat_add];omega
theorem b6k (y v:UInt8):((v.toNat:Int)+((y.toNat:Int)-(v.toNat:Int) / 2) % 256) % 256=((M.bkG y v).toNat:Int):=by
 rw[a5k]
 have:=(M.bkM y v).toNat_lt;have:=v.toNat_lt
 unfold M.bkG
 rw[UInt8.toNat_add];omega
theorem Of (y u v:UInt8) (w:World) :
  Calls prog 198 #[.int .u8 y.toNat,.int .u8 u.toNat,.int .u8 v.toNat] w fun e w'=>
   e=.returned (.tuple #[.int .u8 (M.bkR y u v).toNat,.int .u8 (M.bkG y v).toNat,.int .u8 (M.bkB y u v).toNat])/\w=w':=by
 go_enter func198,ntmps198
 go_wp2
 go_ret3
 exact ⟨by rw[<-c3d,<-b6k,<-a5o];rfl,rfl⟩
theorem fn1 (l u c:Int) (w:World):Calls prog 180 #[.int .i64 l,.int .i64 u,.int .i64 c] w fun e w'=>e=.returned (.int .i64 0)/\w=w':=by
 go_enter func180,ntmps180
 go_wp2
 go_ret
 exact ⟨rfl,rfl⟩
theorem fn2 (l u c:Int) (w:World):Calls prog 181 #[.int .i64 l,.int .i64 u,.int .i64 c] w fun e w'=>e=.returned (.int .i64 l)/\w=w':=by
 go_enter func181,ntmps181
 go_wp2
 go_ret
 exact ⟨rfl,rfl⟩
theorem fn3 (l u c:Int) (w:World):Calls prog 182 #[.int .i64 l,.int .i64 u,.int .i64 c] w fun e w'=>e=.returned (.int .i64 u)/\w=w':=by
 go_enter func182,ntmps182
 go_wp2
 go_ret
 exact ⟨rfl,rfl⟩
theorem fn4 (l u c:Int) (w:World) (hl:0<=l/\l<=255) (hu:0<=u/\u<=255):Calls prog 183 #[.int .i64 l,.int .i64 u,.int .i64 c] w fun e w'=>e=.returned (.int .i64 ((l+u) / 2))/\w=w':=by
 obtain ⟨l0,l1⟩:=hl
 obtain ⟨u0,u1⟩:=hu
 go_enter func183,ntmps183
 go_wp2
 go_ret
 exact ⟨rfl,rfl⟩
theorem fn6 (l u c:Int) (w:World) (hl:0<=l/\l<=255) (hu:0<=u/\u<=255) (hc:0<=c/\c<=255):Calls prog 185 #[.int .i64 l,.int .i64 u,.int .i64 c] w fun e w'=>e=.returned (.int .i64 (M.cB l u c))/\w=w':=by
 obtain ⟨l0,l1⟩:=hl
 obtain ⟨u0,u1⟩:=hu
 obtain ⟨c0,c1⟩:=hc
 go_enter func185,ntmps185
 go_wp2
 all_goals
  go_ret
  exact ⟨F0 (by unfold M.cB;(repeat split at *)<;>omega),rfl⟩
end
section
theorem fn5 (l u c:Int) (w:World) (hl:0<=l/\l<=255) (hu:0<=u/\u<=255) (hc:0<=c/\c<=255):Calls prog 184 #[.int .i64 l,.int .i64 u,.int .i64 c] w fun e w'=>e=.returned (.int .i64 (M.jQ l u c))/\w=w':=by
 obtain ⟨l0,l1⟩:=hl
 obtain ⟨u0,u1⟩:=hu
 obtain ⟨c0,c1⟩:=hc
 go_enter func184,ntmps184
 have i0:∀w,(Instr.index 54 (.agg #[.int .i64 l,.int .i64 u,.int .i64 c]) (.int .i64 0)).run prog w=.ok (.int .i64 l) w:=fun _=>by kernel_rfl
 have i1:∀w,(Instr.index 54 (.agg #[.int .i64 l,.int .i64 u,.int .i64 c]) (.int .i64 1)).run prog w=.ok (.int .i64 u) w:=fun _=>by kernel_rfl
 have i2:∀w,(Instr.index 54 (.agg #[.int .i64 l,.int .i64 u,.int .i64 c]) (.int .i64 2)).run prog w=.ok (.int .i64 c) w:=fun _=>by kernel_rfl
 go_wp2
 refine wp_loop_rounds 4 ?_
 iterate 4 (any_goals (rw[rounds_succ];go_wp2_with fail))
 all_goals
  go_ret
  refine ⟨F0 ?_,rfl⟩
  clear i0 i1 i2
  go_light
  unfold M.jQ M.W7
  (repeat split at *)<;>omega
end
section
def prC:Array Value:=#[.string ⟨#[110,111,110,101]⟩,.func (.func 180) #[] #[],.string ⟨#[108,101,102,116]⟩,.func (.func 181) #[] #[],.string ⟨#[117,112]⟩,.func (.func 182) #[] #[],
 .string ⟨#[97,118,101,114,97,103,101]⟩,.func (.func 183) #[] #[],.string ⟨#[112,97,101,116,104]⟩,.func (.func 184) #[] #[],.string ⟨#[109,101,100,105,97,110,32,101,100,103,101]⟩,.func (.func 185) #[] #[]]
theorem b1g (k:Nat) (h:k<6):prC[k*2+1]? = some (.func (.func (180+k)) #[] #[]):=by
 match k,h with
 |0,_=>rfl
 |1,_=>rfl
 |2,_=>rfl
 |3,_=>rfl
 |4,_=>rfl
 |5,_=>rfl
theorem Kw (k:Nat) (h:k<6) (args:Array Value) (w:World):(callFunc (180+k) args).run prog w=.ok (.enter (180+k) args) w:=by
 match k,h with
 |0,_=>show (callFunc 180 args).run prog w=.ok (.enter 180 args) w;simp[callFunc,go_sem,func180];rfl
 |1,_=>show (callFunc 181 args).run prog w=.ok (.enter 181 args) w;simp[callFunc,go_sem,func181];rfl
 |2,_=>show (callFunc 182 args).run prog w=.ok (.enter 182 args) w;simp[callFunc,go_sem,func182];rfl
 |3,_=>show (callFunc 183 args).run prog w=.ok (.enter 183 args) w;simp[callFunc,go_sem,func183];rfl
 |4,_=>show (callFunc 184 args).run prog w=.ok (.enter 184 args) w;simp[callFunc,go_sem,func184];rfl
 |5,_=>show (callFunc 185 args).run prog w=.ok (.enter 185 args) w;simp[callFunc,go_sem,func185];rfl
theorem uB (k:Nat) (h:k<6) (l u c:Int) (w:World) (hl:0<=l/\l<=255) (hu:0<=u/\u<=255) (hc:0<=c/\c<=255) :
  Calls prog (180+k) #[.int .i64 l,.int .i64 u,.int .i64 c] w fun e w'=>e=.returned (.int .i64 (M.vR k l u c))/\w=w':=by
 match k,h with
 |0,_=>exact fn1 l u c w
 |1,_=>exact fn2 l u c w
 |2,_=>exact fn3 l u c w
 |3,_=>exact fn4 l u c w hl hu
 |4,_=>exact fn5 l u c w hl hu hc
 |5,_=>exact fn6 l u c w hl hu hc
theorem bJ (w:World):Calls prog 150 #[] w fun e w'=>e=.returned (.slice (some ⟨w.heap.size,0,none⟩) 6 6)/\w.alloc (.cells prC 196)=w':=by
 go_enter func150,ntmps150
 go_wp2
 go_ret
 exact ⟨rfl,rfl⟩
theorem bL (w:World):Calls prog 147 #[] w fun e w'=>e=.returned (.int .i64 6)/\Below w.heap.size w w':=by
 go_enter func147,ntmps147
 go_wp2_with fail
 refine (bJ _).mono ?_
 rintro e w' ⟨rfl,rfl⟩
 go_wp2_with fail
 go_ret
 exact ⟨rfl,(Below.refl _ _).alloc (Nat.le_refl _) _⟩
theorem b1l (b o g:Nat) (x:UInt8) (i:Nat) (hi:i<64) (w:World) (hg:w.cell? ⟨g,0,none⟩=some (.pointer (some ⟨b,o,none⟩))) (hp:w.cell? ⟨b,o+i,none⟩=some (.int .u8 x.toNat)) :
  Calls prog 186 #[.int .i64 i,.pointer (some ⟨g,0,none⟩)] w fun e w'=>e=.returned (.int .i64 x.toNat)/\w=w':=by
 have hx:=x.toNat_lt
 go_enter func186,ntmps186
 go_wp2_with fail
 go_ret
 exact ⟨rfl,rfl⟩
theorem eR (b o:Nat) (p:Nat->UInt8) (m:Nat) (n:Int) (hn:n=(m:Int)) (hm:m<64) (w:World) (hb:b<w.heap.size) (hp:w.cell? ⟨b,o+m,none⟩=some (.int .u8 (p m).toNat)) :
  Calls prog 186 #[.int .i64 n,.pointer (some ⟨w.heap.size,0,none⟩)] (w.alloc (.cells #[.pointer (some ⟨b,o,none⟩)] 226)) fun e w'=>e=.returned (.int .i64 (p m).toNat)/\w.alloc (.cells #[.pointer (some ⟨b,o,none⟩)] 226)=w':=by
 subst hn
 refine b1l b o w.heap.size (p m) m hm _ ?_ ?_
 ·rw[World.cell?_alloc_mark];rfl
 ·rw[((Below.refl w.heap.size w).alloc (Nat.le_refl _) _).cell (p:=⟨b,o+m,none⟩) hb];exact hp
theorem gi0 (k:Nat) (hk:k<6) (p:Nat->UInt8) (w:World):Calls prog (180+k) #[.int .i64 0,.int .i64 0,.int .i64 0] w fun e w'=>e=.returned (.int .i64 (M.gi k p 0))/\w=w':=
 uB k hk 0 0 0 w M.cP M.cP M.cP
theorem gi1 (k:Nat) (hk:k<6) (p:Nat->UInt8) (i:Nat) (h0:¬i=0) (h8:i<8) (w:World):Calls prog (180+k) #[.int .i64 (p (i-1)).toNat,.int .i64 (p (i-1)).toNat,.int .i64 (p (i-1)).toNat] w fun e w'=>e=.returned (.int .i64 (M.gi k p i))/\w=w':=by
 have h:=uB k hk _ _ _ w (M.H3 (p (i-1))) (M.H3 (p (i-1))) (M.H3 (p (i-1)))
 have e:M.vR k (p (i-1)).toNat (p (i-1)).toNat (p (i-1)).toNat=M.gi k p i:=by unfold M.gi M.nbL M.nbU M.nbC;simp only[h0,h8,if_true,if_false]
 rwa [e] at h
theorem gi2 (k:Nat) (hk:k<6) (p:Nat->UInt8) (i:Nat) (h8:¬i<8) (hm:i % 8=0) (w:World):Calls prog (180+k) #[.int .i64 (p (i-8)).toNat,.int .i64 (p (i-8)).toNat,.int .i64 (p (i-8)).toNat] w fun e w'=>e=.returned (.int .i64 (M.gi k p i))/\w=w':=by
 have h:=uB k hk _ _ _ w (M.H3 (p (i-8))) (M.H3 (p (i-8))) (M.H3 (p (i-8)))
 have h0:¬i=0:=by omega
 have e:M.vR k (p (i-8)).toNat (p (i-8)).toNat (p (i-8)).toNat=M.gi k p i:=by unfold M.gi M.nbL M.nbU M.nbC;simp only[h0,h8,hm,if_true,if_false]
 rwa [e] at h
theorem gi3 (k:Nat) (hk:k<6) (p:Nat->UInt8) (i:Nat) (h8:¬i<8) (hm:¬i % 8=0) (w:World):Calls prog (180+k) #[.int .i64 (p (i-1)).toNat,.int .i64 (p (i-8)).toNat,.int .i64 (p (i-9)).toNat] w fun e w'=>e=.returned (.int .i64 (M.gi k p i))/\w=w':=by
 have h:=uB k hk _ _ _ w (M.H3 (p (i-1))) (M.H3 (p (i-8))) (M.H3 (p (i-9)))
 have h0:¬i=0:=by omega
 have e:M.vR k (p (i-1)).toNat (p (i-8)).toNat (p (i-9)).toNat=M.gi k p i:=by unfold M.gi M.nbL M.nbU M.nbC;simp only[h0,h8,hm,if_false]
 rwa [e] at h
theorem Hv (k:Nat) (hk:k<6) (b o:Nat) (p:Nat->UInt8) (i:Nat) (hi:i<64) (w:World) (hb:b<w.heap.size) (hp:∀m,m<i->w.cell? ⟨b,o+m,none⟩=some (.int .u8 (p m).toNat)) :
  Calls prog 151 #[.pointer (some ⟨b,o,none⟩),.int .i64 i,.func (.func (180+k)) #[] #[]] w fun e w'=>e=.returned (.int .u8 (M.gs k p i).toNat)/\Below w.heap.size w w':=by
 have hgv:=M.Nk k p i
 have hgi:=M.a5g k p i
 unfold M.Af at hgi
 obtain ⟨hg0,hg1⟩:=hgi
 have HG:=Lib.hid hgv
 clear hgv
 have HP:=Lib.hid hp
 clear hp
 have ef:=Kw k hk
 by_cases h0:i=0
 ·subst h0
  go_enter func151,ntmps151
  go_wp2_with fail
  refine (gi0 k hk p _).mono ?_
  rintro e w' ⟨rfl,rfl⟩
  go_wp2_with fail
  go_ret
  exact ⟨F0 HG.out.symm,(Below.refl _ _).alloc (Nat.le_refl _) _⟩
 ·by_cases h8:i<8
  ·go_enter func151,ntmps151
   go_wp2_with fail
   refine (eR b o p (i-1) _ (by omega) (by omega) w hb (HP.out _ (by omega))).mono ?_
   rintro e w' ⟨rfl,rfl⟩
   go_wp2_with fail
   refine (eR b o p (i-1) _ (by omega) (by omega) w hb (HP.out _ (by omega))).mono ?_
   rintro e w' ⟨rfl,rfl⟩
   go_wp2_with fail
   refine (eR b o p (i-1) _ (by omega) (by omega) w hb (HP.out _ (by omega))).mono ?_
   rintro e w' ⟨rfl,rfl⟩
   go_wp2_with fail
   refine (gi1 k hk p i h0 h8 _).mono ?_
   rintro e w' ⟨rfl,rfl⟩
   go_wp2_with fail
   go_ret
   exact ⟨F0 HG.out.symm,(Below.refl _ _).alloc (Nat.le_refl _) _⟩
  ·by_cases hm:i % 8=0
   ·have hm8:(i:Int) % 8=0:=by omega
    go_enter func151,ntmps151
    go_wp2_with fail
    refine (eR b o p (i-8) _ (by omega) (by omega) w hb (HP.out _ (by omega))).mono ?_
    rintro e w' ⟨rfl,rfl⟩
    go_wp2_with fail
    refine (gi2 k hk p i h8 hm _).mono ?_
    rintro e w' ⟨rfl,rfl⟩
    go_wp2_with fail
    go_ret
    exact ⟨F0 HG.out.symm,(Below.refl _ _).alloc (Nat.le_refl _) _⟩
   ·have hm8:((i:Int) % 8==0)=false:=by simp;omega
    go_enter func151,ntmps151
    go_wp2_with fail
    refine (eR b o p (i-1) _ (by omega) (by omega) w hb (HP.out _ (by omega))).mono ?_
    rintro e w' ⟨rfl,rfl⟩
    go_wp2_with fail
    refine (eR b o p (i-8) _ (by omega) (by omega) w hb (HP.out _ (by omega))).mono ?_
    rintro e w' ⟨rfl,rfl⟩
    go_wp2_with fail
    refine (eR b o p (i-9) _ (by omega) (by omega) w hb (HP.out _ (by omega))).mono ?_
    rintro e w' ⟨rfl,rfl⟩
    go_wp2_with fail
    refine (gi3 k hk p i h8 hm _).mono ?_
    rintro e w' ⟨rfl,rfl⟩
    go_wp2_with fail
    go_ret
    exact ⟨F0 HG.out.symm,(Below.refl _ _).alloc (Nat.le_refl _) _⟩
end
section
end
end Prd
end
section
namespace Prd
section
def cf (n:Nat) (f:Nat->UInt8):Array Value:=((List.range n).map fun i=>Value.int .u8 ((f i).toNat:Int)).toArray
theorem cN (n:Nat) (f:Nat->UInt8):(cf n f).size=n:=by simp[cf]
theorem Ea (n:Nat) (f:Nat->UInt8) (i:Nat) (h:i<n):(cf n f)[i]? = some (.int .u8 ((f i).toNat:Int)):=by simp[cf,h]
theorem Du (n:Nat) (f:Nat->UInt8) (i:Nat) (h:n<=i):(cf n f)[i]? = none:=by simp[cf,h]
theorem Ky (n:Nat) (f g:Nat->UInt8) (h:∀i,i<n->f i=g i):cf n f=cf n g:=by
 unfold cf
 congr 1
 exact List.map_congr_left fun i hi=>by rw[h i (by simpa using hi)]
theorem b0r (n:Nat) (f:Nat->UInt8) (i:Nat) (v:UInt8):(cf n f).setIfInBounds i (.int .u8 (v.toNat:Int))=cf n (M.put f i v):=by
 apply Array.ext_getElem?
 intro j
 rw[Array.getElem?_setIfInBounds]
 by_cases hj:j<n
 ·rw[Ea n (M.put f i v) j hj]
  by_cases e:i=j
  ·subst e;rw[if_pos rfl,if_pos (by rw[cN];exact hj),M.Sd]
  ·rw[if_neg e,Ea n f j hj,M.Jk _ _ _ _ (fun h=>e h.symm)]
 ·rw[Du n (M.put f i v) j (by omega)]
  by_cases e:i=j
  ·subst e;rw[if_pos rfl,if_neg (by rw[cN];exact hj)]
  ·rw[if_neg e,Du n f j (by omega)]
theorem b2k (n:Nat) (f:Nat->UInt8):(cf n f).all (·.oneCell')=true:=by
 rw[Array.all_eq_true]
 intro i hi
 have h:=Ea n f i (by rw[cN] at hi;exact hi)
 rw[Array.getElem?_eq_getElem hi] at h
 rw[Option.some.inj h];rfl
def Bk (g:Nat) (t:TypeId) (n:Nat) (f:Nat->UInt8) (w:World):Prop:=w.heap[g]? = some (.cells (cf n f) t (0,0))
theorem Bk.lt {g t n f w} (h:Bk g t n f w):g<w.heap.size:=by
 rcases Nat.lt_or_ge g w.heap.size with h'|h'
 ·exact h'
 ·unfold Bk at h;rw[Array.getElem?_eq_none h'] at h;simp at h
theorem Bk.cell {g t n f w} (h:Bk g t n f w) (i:Nat) (hi:i<n):w.cell? ⟨g,i,none⟩=some (.int .u8 ((f i).toNat:Int)):=by
 rw[cell_of_row w g i _ _ _ h];exact Ea n f i hi
theorem Bk.free {g t n f w} (h:Bk g t n f w) (i:Nat):w.frozen? ⟨g,i,none⟩=false:=frozen_of_row w g i _ _ h
theorem Bk.set {g t n f w} (h:Bk g t n f w) (i:Nat) (v:UInt8):Bk g t n (M.put f i v) (w.setCell ⟨g,i,none⟩ (.int .u8 (v.toNat:Int))):=by
 unfold Bk
 rw[heap_setCell_same _ _ _ _ _ _ h,b0r]
theorem Bk.other {g t n f w} (h:Bk g t n f w) (a:Addr) (v:Value) (hne:g≠a.block):Bk g t n f (w.setCell a v):=by
 unfold Bk
 rw[heap_setCell_other _ _ _ _ hne];exact h
theorem Bk.keep {g t n f w w1} (h:Bk g t n f w) (hb:Below w.heap.size w w1):Bk g t n f w1:=by
 have hl:=h.lt
 unfold Bk at h⊢
 rw[hb.block _ hl];exact h
theorem Bk.drew {g t n f w} (h:Bk g t n f w):Bk g t n f w.drew:=h
theorem Bk.alloc {g t n f w} (h:Bk g t n f w) (o:Obj):Bk g t n f (w.alloc o):=h.keep ((Below.refl _ _).alloc (Nat.le_refl _) o)
theorem Bk.new (w:World) (t:TypeId) (n:Nat) (f:Nat->UInt8):Bk w.heap.size t n f (w.alloc (.cells (cf n f) t)):=heap_alloc_new _ _
theorem Bk.congr {g t n f f' w} (h:Bk g t n f w) (he:∀i,i<n->f i=f' i):Bk g t n f' w:=by
 unfold Bk at h⊢
 rw[h,Ky n f f' he]
theorem Tryz.zero191 (w:World):(zeroValue 191).run prog w=.ok (.agg (cf 256 fun _=>0)) w:=by kernel_rfl
theorem Tryz.zero38 (w:World):(zeroValue 38).run prog w=.ok (.agg (cf 256 fun _=>0)) w:=by kernel_rfl
theorem Tryz.size38:(prog.info? 38).map (·.size)=some 256:=by kernel_rfl
end
section
section
variable {ops:Array Oper} {rest:List Oper} {op:Oper} {a:Act} {w:World} {Q:Exit->Act->World->Prop}
end
end
section
def Xs (t:Nat->UInt8) (j:Nat):UInt8:=
 if j<64 then M.swY (t (4*j)) (t (4*j+1)) (t (4*j+2))
 else if j<128 then M.swU (t (4*(j-64))) (t (4*(j-64)+2))
 else if j<192 then M.swV (t (4*(j-128))) (t (4*(j-128)+1)) (t (4*(j-128)+2))
 else t (4*(j-192)+3)
def Jw (t:Nat->UInt8) (n:Nat) (j:Nat):UInt8:=if j % 64<n then Xs t j else 0
theorem Kt (t:Nat->UInt8):Jw t 0=fun _=>0:=by funext j;simp[Jw]
theorem a4f (t:Nat->UInt8) (n:Nat) (h:n<64) (j:Nat) (hj:j<256) :
  M.put (M.put (M.put (M.put (Jw t n) n (M.swY (t (4*n)) (t (4*n+1)) (t (4*n+2)))) (64+n) (M.swU (t (4*n)) (t (4*n+2)))) (128+n) (M.swV (t (4*n)) (t (4*n+1)) (t (4*n+2)))) (192+n) (t (4*n+3)) j=Jw t (n+1) j:=by
 unfold M.put Jw
 by_cases h1:j=192+n
 ·subst h1
  rw[if_pos rfl,if_pos (by omega)]
  unfold Xs
  rw[if_neg (by omega),if_neg (by omega),if_neg (by omega),show 192+n-192=n by omega]
 rw[if_neg h1]
 by_cases h2:j=128+n
 ·subst h2
  rw[if_pos rfl,if_pos (by omega)]
  unfold Xs
  rw[if_neg (by omega),if_neg (by omega),if_pos (by omega),show 128+n-128=n by omega]
 rw[if_neg h2]
 by_cases h3:j=64+n
 ·subst h3
  rw[if_pos rfl,if_pos (by omega)]
  unfold Xs
  rw[if_neg (by omega),if_pos (by omega),show 64+n-64=n by omega]
 rw[if_neg h3]
 by_cases h4:j=n
 ·subst h4
  rw[if_pos rfl,if_pos (by omega)]
  unfold Xs
  rw[if_pos (by omega)]
 rw[if_neg h4]
 by_cases h5:j % 64<n
 ·rw[if_pos h5,if_pos (by omega)]
 ·rw[if_neg h5,if_neg (by omega)]
theorem Li (t:Nat->UInt8) (j:Nat):Jw t 64 j=Xs t j:=by unfold Jw;rw[if_pos (by omega)]
theorem Oh (k:Nat) (hk:k<6) (g:Nat) (p:Nat->UInt8) (q i:Nat) (hq:q<4) (hi:i<64) (w:World) (h:Bk g 191 256 p w) :
  Calls prog 151 #[.pointer (some ⟨g,q*64,none⟩),.int .i64 i,.func (.func (180+k)) #[] #[]] w fun e w'=>e=.returned (.int .u8 (M.gs k (M.pl p q) i).toNat)/\Below w.heap.size w w':=
 Hv k hk g (q*64) (M.pl p q) i hi w h.lt (fun m hm=>by
  have:=h.cell (q*64+m) (by omega)
  rw[this]
  unfold M.pl
  rw[Nat.mul_comm])
theorem Jm {w w1:World} {a:Addr} {v:Value} (h:w.cell? a=some v) (hb:Below w.heap.size w w1):w1.cell? a=some v:=by
 rw[hb.cell (block_lt_of_cell h)];exact h
end
end Prd
end
section
namespace Prd
section
def fw (k:Nat) (t:Nat->UInt8):ByteArray:=⟨(M.tab 256 (M.res k (Xs t))).toArray⟩
theorem Ut (k:Nat) (t:Nat->UInt8):(fw k t).size=256:=by unfold fw;rw[yV,M.S9]
end
section
def St (f:Nat->UInt8):ByteArray:=⟨(M.tab 256 f).toArray⟩
theorem Ex (f:Nat->UInt8):(St f).size=256:=by unfold St;rw[yV,M.S9]
theorem Oc (f:Nat->UInt8) (j:Nat) (z:Int) (hz:z=j) (h:j<256) (W:World):(Instr.index 9 (.string (St f)) (.int .i64 z)).run prog W=.ok (.int .u8 (f j).toNat) W:=by
 subst hz
 have hi:j<(St f).size:=by rw[Ex];omega
 have hg:(St f)[j]? = some (f j):=by
  rw[getElem?_pos (St f) j hi]
  show some ((M.tab 256 f).toArray[j]'(by simp[M.S9,h]))=_
  rw[List.getElem_toArray,M.Gk]
 simp[Instr.index,asIntOf,Sem.run_bind,run_underlying underlying9,hg]
def Bu (p:Nat->UInt8) (j:Nat):UInt8:=
 if j % 4=0 then M.bkR (p (j / 4)) (p (64+j / 4)) (p (128+j / 4)) else if j % 4=1 then M.bkG (p (j / 4)) (p (128+j / 4)) else if j % 4=2 then M.bkB (p (j / 4)) (p (64+j / 4)) (p (128+j / 4)) else p (192+j / 4)
def iP (p:Nat->UInt8) (n j:Nat):UInt8:=if j<n*4 then Bu p j else 0
theorem rW (p:Nat->UInt8):iP p 0=fun _=>0:=by funext j;simp[iP]
theorem rQ (p:Nat->UInt8) (j:Nat) (h:j<256):iP p 64 j=Bu p j:=by unfold iP;rw[if_pos (by omega)]
theorem yY (p:Nat->UInt8) (n j:Nat):M.put (M.put (M.put (M.put (iP p n) (n*4) (M.bkR (p n) (p (64+n)) (p (128+n)))) (n*4+1) (M.bkG (p n) (p (128+n)))) (n*4+2) (M.bkB (p n) (p (64+n)) (p (128+n)))) (n*4+3) (p (192+n)) j=iP p (n+1) j:=by
 unfold M.put iP
 by_cases h3:j=n*4+3
 ·subst h3;rw[if_pos rfl,if_pos (by omega)];unfold Bu;rw[if_neg (by omega),if_neg (by omega),if_neg (by omega),show (n*4+3) / 4=n by omega]
 rw[if_neg h3]
 by_cases h2:j=n*4+2
 ·subst h2;rw[if_pos rfl,if_pos (by omega)];unfold Bu;rw[if_neg (by omega),if_neg (by omega),if_pos (by omega),show (n*4+2) / 4=n by omega]
 rw[if_neg h2]
 by_cases h1:j=n*4+1
 ·subst h1;rw[if_pos rfl,if_pos (by omega)];unfold Bu;rw[if_neg (by omega),if_pos (by omega),show (n*4+1) / 4=n by omega]
 rw[if_neg h1]
 by_cases h0:j=n*4
 ·subst h0;rw[if_pos rfl,if_pos (by omega)];unfold Bu;rw[if_pos (by omega),show (n*4) / 4=n by omega]
 rw[if_neg h0]
 by_cases h:j<n*4
 ·rw[if_pos h,if_pos (by omega)]
 ·rw[if_neg h,if_neg (by omega)]
theorem Em (k:Nat) (f:Nat->UInt8) (q i:Nat) (hi:i<64):M.put (M.vN k f (q*64+i)) (q*64+i) (f (q*64+i)+M.gs k (M.pl (M.vN k f (q*64+i)) q) i)=M.vN k f (q*64+(i+1)):=by
 show _=M.vN k f ((q*64+i)+1)
 show _=M.put _ _ _
 rw[show (q*64+i) / 64=q by omega,show (q*64+i) % 64=i by omega]
theorem Zj {x:World} {g b i j:Nat} {v u:Value} (hne:g≠b) (h:x.drew.cell? ⟨g,i,none⟩=some u):(x.setCell ⟨b,j,none⟩ v).drew.cell? ⟨g,i,none⟩=some u:=by
 show (x.setCell ⟨b,j,none⟩ v).cell? ⟨g,i,none⟩=some u
 rw[World.cell?_setCell_other _ _ _ _ (by intro e;injection e with e1 _ _;exact hne e1.symm)]
 exact h
theorem kT {fn:Func} {p u:Tmp} {ty:TypeId} (h:fn.results = #[.cell p ty,.tmp u]) (tmps:Array Value) (w:World) (g:Nat) (cs:Array Value)
  (hp:tmps.getD p undef=.pointer (some ⟨g,0,none⟩)) (hl:(loadVar ty ⟨g,0,none⟩).run prog w=.ok (.agg cs) w) :
  (results fn tmps).run prog w=.ok (.tuple #[.agg cs,tmps.getD u undef]) w:=by
 have hp':tmps[p]?.getD undef=.pointer (some ⟨g,0,none⟩):=by simpa using hp
 simp[results,h,hp',asAddr,hl]
theorem b2z (a b:UInt8):((a.toNat:Int)+(b.toNat:Int)) % 256=((a+b).toNat:Int):=by
 have:=a.toNat_lt;have:=b.toNat_lt
 rw[UInt8.toNat_add];omega
theorem wN (f:Nat->UInt8) (k:Nat) (hk:k<6) (w:World) :
  Calls prog 173 #[.string (St f),.int .i64 k] w fun e w'=>
   e=.returned (.tuple #[.agg (cf 256 (Bu (M.vN k f 256))),.int .i64 0])/\Below w.heap.size w w':=by
 have hz:=Tryz.zero38
 have hz7:=Tryz.zero191
 have hs:=Ex f
 go_enter func173,ntmps173
 go_wp2_with fail
 refine (bL _).mono ?_
 rintro e w1 ⟨rfl,hb1⟩
 have hT:Bk w.heap.size 38 256 (fun _=>0) w1:=(Bk.new w 38 256 _).keep hb1
 have hb:=((Below.refl w.heap.size w).alloc (Nat.le_refl _) (.cells (cf 256 fun _=>0) 38)).trans (hb1.mono (by simp))
 clear hb1
 have hpc:(w1.alloc (.cells prC 196)).cell? ⟨w1.heap.size,k*2+1,none⟩=some (.func (.func (180+k)) #[] #[]):=by rw[World.cell?_alloc_mark];exact b1g k hk
 go_wp2_with (go_at_call 150;refine (bJ _).mono ?_;rintro e w' ⟨rfl,rfl⟩)
 have hP:Bk (w1.heap.size+1) 191 256 (M.vN k f (0*64)) ((w1.alloc (.cells prC 196)).alloc (.cells (cf 256 fun _=>0) 191)):=heap_alloc2_new _ _ _
 have hT1:Bk w.heap.size 38 256 (fun _=>0) ((w1.alloc (.cells prC 196)).alloc (.cells (cf 256 fun _=>0) 191)):=(hT.alloc _).alloc _
 have hb1:Below w.heap.size w ((w1.alloc (.cells prC 196)).alloc (.cells (cf 256 fun _=>0) 191)):=(hb.alloc hb.size _).alloc (by have:=hb.size;simp;omega) _
 have n1:w.heap.size≠w1.heap.size+1:=by have:=hT.lt;omega
 have l1:w.heap.size<=w1.heap.size+1:=by have:=hb.size;omega
 clear hT hb hz hz7 hpc hs
 generalize (w1.alloc (.cells prC 196)).alloc (.cells (cf 256 fun _=>0) 191)=W0 at *
 generalize w1.heap.size+1=gp at *
 go_loopw [29] (fun a wo=>∃q:Nat,q<=4/\a=.int .i64 q/\Bk gp 191 256 (M.vN k f (q*64)) wo/\Bk w.heap.size 38 256 (fun _=>0) wo/\Below w.heap.size w wo) (fun a _=>4-(intOf a).toNat)
 case atStart=>exact ⟨0,by omega,rfl,hP,hT1,hb1⟩
 case round=>
  clear hP hT1 hb1
  obtain ⟨q,hq,rfl,hP1,hT1,hL1⟩:=hrel
  by_cases hq4:q<4
  ·have hq0:(0:Int)<=(q:Int):=by omega
   have hq1:(q:Int)<4:=by omega
   go_wp2_with fail
   go_loopw [32] (fun a wi=>∃i:Nat,i<=64/\a=.int .i64 i/\Bk gp 191 256 (M.vN k f (q*64+i)) wi/\Bk w.heap.size 38 256 (fun _=>0) wi/\Below w.heap.size w wi) (fun a _=>64-(intOf a).toNat)
   case atStart=>exact ⟨0,by omega,rfl,hP1,hT1,hL1⟩
   case round=>
    obtain ⟨i,hi,rfl,hP2,hT2,hL2⟩:=hrel
    clear hP1 hT1 hL1
    by_cases hi4:i<64
    ·have hc:=hP2.cell (q*64+i) (by omega)
     have hf:=hP2.free (q*64+i)
     have hcd:wr.drew.cell? ⟨gp,q*64+i,none⟩=some (.int .u8 (((M.vN k f (q*64+i)) (q*64+i)).toNat:Int)):=hc
     have hfd:wr.drew.frozen? ⟨gp,q*64+i,none⟩=false:=hf
     have hI:=fun W=>Oc f (q*64+i) ((q:Int)*64+(i:Int)) (by omega) (by omega) W
     have hi0:(0:Int)<=(i:Int):=by omega
     have jF:(i:Int)<64:=by omega
     have hw1:IntKind.i64.wrap ((q:Int)*64)=(q:Int)*64:=IntWalk.i64_in _ (by omega)
     have hw2:IntKind.i64.wrap ((q:Int)*64+(i:Int))=(q:Int)*64+(i:Int):=IntWalk.i64_in _ (by omega)
     have HP:=Lib.hid hP2
     have HT:=Lib.hid hT2
     have HL:=Lib.hid hL2
     clear hP2 hT2 hL2 hc hf
     generalize hu:M.vN k f (q*64+i)=u at *
     have HU:=Lib.hid hu
     clear hu
     go_wp2_with fail
     go_region_with (go_at_call 151;refine (Oh k hk gp u q i hq4 hi4 _ (Bk.drew HP.out)).mono ?_;rintro e w2 ⟨rfl,hb2⟩;have hc2:=Jm hcd hb2;have hf2:=(hb2.frozen (p:=⟨gp,q*64+i,none⟩) (block_lt_of_cell hcd)).trans hfd)
     all_goals
      go_wp2_with fail
      clear hw1 hw2
      go_roundw
      case rel=>
       rw[b2z]
       refine ⟨i+1,by omega,by go_num,?_,((Bk.drew HT.out).keep hb2).other _ _ n1,(bt (Below.drew HL.out) hb2).setCell (p:=⟨gp,q*64+i,none⟩) l1 _⟩
       rw[<-Em k f q i hi4,HU.out]
       exact ((Bk.drew HP.out).keep hb2).set (q*64+i) _
      case measure=>simp[intOf];omega
    ·have hi64:i=64:=by omega
     subst hi64
     go_wp2_with fail
     go_roundw
     case rel=>exact ⟨q+1,by omega,by go_num,by rw[show (q+1)*64=q*64+64 by omega];exact hP2,hT2,hL2⟩
     case measure=>simp[intOf];omega
  ·have hq4':q=4:=by omega
   have eq256:q*64=256:=by omega
   have hP:Bk gp 191 256 (M.vN k f 256) wr:=by rw[eq256] at hP1;exact hP1
   clear hP1 eq256 hq4'
   generalize hu:M.vN k f 256=u at *
   have HU:=Lib.hid hu
   clear hu
   go_wp2_with fail
   go_loopw [53] (fun a wi=>∃n:Nat,n<=64/\a=.int .i64 n/\Bk gp 191 256 u wi/\Bk w.heap.size 38 256 (iP u n) wi/\Below w.heap.size w wi) (fun a _=>64-(intOf a).toNat)
   case atStart=>exact ⟨0,by omega,rfl,hP,by rw[rW];exact hT1,hL1⟩
   case round=>
    clear hP hT1 hL1
    obtain ⟨n,hn,rfl,hP,hT,hL⟩:=hrel
    by_cases hlt:n<64
    ·have d0:wr.cell? ⟨gp,n,none⟩=some (.int .u8 ((u n).toNat:Int)):=hP.cell n (by omega)
     have d1:wr.cell? ⟨gp,64+n,none⟩=some (.int .u8 ((u (64+n)).toNat:Int)):=hP.cell (64+n) (by omega)
     have d2:wr.cell? ⟨gp,128+n,none⟩=some (.int .u8 ((u (128+n)).toNat:Int)):=hP.cell (128+n) (by omega)
     have d3:wr.cell? ⟨gp,192+n,none⟩=some (.int .u8 ((u (192+n)).toNat:Int)):=hP.cell (192+n) (by omega)
     have c0:wr.cell? ⟨w.heap.size,n*4,none⟩=some (.int .u8 ((iP u n (n*4)).toNat:Int)):=hT.cell (n*4) (by omega)
     have c1:wr.cell? ⟨w.heap.size,n*4+1,none⟩=some (.int .u8 ((iP u n (n*4+1)).toNat:Int)):=hT.cell (n*4+1) (by omega)
     have c2:wr.cell? ⟨w.heap.size,n*4+2,none⟩=some (.int .u8 ((iP u n (n*4+2)).toNat:Int)):=hT.cell (n*4+2) (by omega)
     have c3:wr.cell? ⟨w.heap.size,n*4+3,none⟩=some (.int .u8 ((iP u n (n*4+3)).toNat:Int)):=hT.cell (n*4+3) (by omega)
     have f0:wr.frozen? ⟨w.heap.size,n*4,none⟩=false:=hT.free (n*4)
     have f1:wr.frozen? ⟨w.heap.size,n*4+1,none⟩=false:=hT.free (n*4+1)
     have f2:wr.frozen? ⟨w.heap.size,n*4+2,none⟩=false:=hT.free (n*4+2)
     have f3:wr.frozen? ⟨w.heap.size,n*4+3,none⟩=false:=hT.free (n*4+3)
     have n1':gp≠w.heap.size:=fun e=>n1 e.symm
     have hn0:(0:Int)<=(n:Int):=by omega
     have hn1:(n:Int)<64:=by omega
     have HP:=Lib.hid hP
     have HT:=Lib.hid hT
     have HL:=Lib.hid hL
     clear hP hT hL
     go_wp2_with fail
     go_region_held3 (fun x=>x.cell? ⟨gp,n,none⟩=some (.int .u8 ((u n).toNat:Int))/\x.cell? ⟨gp,64+n,none⟩=some (.int .u8 ((u (64+n)).toNat:Int))/\x.cell? ⟨gp,128+n,none⟩=some (.int .u8 ((u (128+n)).toNat:Int)))
      (refine ⟨?_,?_,?_⟩<;>(repeat (first|exact d0|exact d1|exact d2|refine Zj n1' ?_)))
      (first|(go_at_call 198;refine (Of _ _ _ _).mono ?_;rintro e w2 ⟨rfl,rfl⟩))
     all_goals
      go_wp2_with fail
      go_roundw
      case rel=>
       refine ⟨n+1,by omega,by go_num,Bk.drew ((((Bk.other HP.out _ _ n1').other _ _ n1').other _ _ n1').other _ _ n1'),
        Bk.drew (((((Bk.set HT.out (n*4) _).set (n*4+1) _).set (n*4+2) _).set (n*4+3) _).congr (fun j _=>yY u n j)),?_⟩
       exact ((((Below.setCell HL.out (p:=⟨w.heap.size,n*4,none⟩) (Nat.le_refl _) _).setCell (p:=⟨w.heap.size,n*4+1,none⟩) (Nat.le_refl _) _).setCell (p:=⟨w.heap.size,n*4+2,none⟩) (Nat.le_refl _) _).setCell (p:=⟨w.heap.size,n*4+3,none⟩) (Nat.le_refl _) _).drew
      case measure=>simp[intOf];omega
    ·have hn64:n=64:=by omega
     have hT2:Bk w.heap.size 38 256 (Bu u) wr:=hT.congr (fun j hj=>(by rw[hn64];exact rQ u j hj))
     clear hT hn64
     have hself:wr.setRow w.heap.size (cf 256 (Bu u))=wr:=setRow_self _ _ _ _ _ hT2
     go_wp2_with (first
      |refine wpList_load_row rfl 38 _ rfl w.heap.size rfl 38 _ (0,0) _ hT2 underlying38 rfl (by rw[cN];exact Tryz.size38) ?_
      |(refine wpList_store_row rfl 38 _ _ rfl w.heap.size (cf 256 (Bu u)) rfl rfl 38 (cf 256 (Bu u)) hT2 (by rw[cN];exact Tryz.size38) rfl (b2k _ _) ?_))
     exact bodyPost_ret (v:=.tuple #[.agg (cf 256 (Bu u)),.int .i64 0]) (kT (fn:=Tryz.f173) (p:=4) (u:=5) (ty:=38) rfl _ _ w.heap.size _ rfl (run_loadVar_row wr w.heap.size 38 38 _ (0,0) _ hT2 underlying38 rfl (by rw[cN];exact Tryz.size38))) rfl ⟨by rw[HU.out],hL⟩
end
end Prd
end
end Go.Proofs.YtpdckpifhniioaaGreat
