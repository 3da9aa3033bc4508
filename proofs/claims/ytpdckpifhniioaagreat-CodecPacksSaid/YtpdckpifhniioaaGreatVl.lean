/- Part 12 of what CodecPacks rests on. -/
import Derived.Lib.Builder
import Derived.Lib.UnsafeStr
import Derived.Lib.AppendStr
import Derived.Laws.Externs
import Derived.Deep.DeepCutAuto
import Derived.Test.YtpdckpifhniioaaGreatVa
import Derived.Test.YtpdckpifhniioaaGreatVd
import Derived.Test.YtpdckpifhniioaaGreatVj
import Derived.Test.YtpdckpifhniioaaGreatVk
section
set_option linter.unusedVariables false
namespace Go.Proofs.YtpdckpifhniioaaGreat
open Go.RowKit
namespace Ab
def dcsOf:List Tr→List (Nat×Nat×Bool)
 |[]=>[]
 |t::l=>t.e.dc++dcsOf l
theorem trace_bs {P:Program} {cx:Cy} {ops:List Oper} {n0:Nat} (c0:Nat→Option Nat):∀(r:List Oper) (bs:List Bool) (S S':St) (l:List Tr),trace P cx ops n0 r bs S=some (l,S')→
  (∀p∈dcsOf l,∀v,c0 p.1=some v→decide (p.2.1≤v)=p.2.2)→TraceR P ops c0 n0 r S l S'
 |[],bs,S,S',l,h,hd=>by
  simp only[trace,Option.some.injEq,Prod.mk.injEq] at h
  obtain ⟨rfl,rfl⟩:=h
  exact .nil _
 |o::r,bs,S,S',l,h,hD=>by
  unfold trace at h
  split at h
  ·cases h
  ·rename_i e he
   split at h
   ·rename_i hdc
    split at h
    ·rename_i hd hn
     split at h
     ·rename_i l1 S1 ht
      cases h
      exact .cons (stepS he) hd hn (fun _ p hp=>by rw[hdc] at hp;cases hp) (trace_bs c0 r bs _ _ _ ht fun p hp=>hD p (by simp only[dcsOf];exact List.mem_append_right _ hp))
     ·cases h
    ·cases h
   ·rename_i id m hdc
    split at h
    ·rename_i bs' hlt
     have hid:id<n0:=Nat.le_of_ble_eq_true hlt
     split at h
     ·rename_i hd hn
      split at h
      ·rename_i l1 S1 ht
       cases h
       refine .cons (stepS he) hd hn (fun _ p hp=>?_) (trace_bs c0 r bs' _ _ _ ht fun p hp=>hD p (by simp only[dcsOf];exact List.mem_append_right _ hp))
       refine ⟨?_,hD p (by simp only[dcsOf];exact List.mem_append_left _ hp)⟩
       rw[hdc] at hp
       simp only[List.mem_singleton] at hp
       subst hp
       exact hid
      ·cases h
     ·cases h
    ·rename_i bs' hlt
     have hid:id<n0:=Nat.le_of_ble_eq_true hlt
     split at h
     ·cases h
     ·rename_i e' he'
      split at h
      ·rename_i hd hn
       split at h
       ·rename_i l1 S1 ht
        cases h
        refine .cons (e:={e' with obs:=(e'.dc=[(id,m,false)])::e'.obs}) (fun β a x Q ho hw hsl hrd hnew hdc=>stepS he' β a x Q ho.2 hw hsl hrd hnew hdc) hd hn (fun ho p hp=>?_) (trace_bs c0 r bs' _ _ _ ht fun p hp=>hD p (by simp only[dcsOf];exact List.mem_append_right _ hp))
        refine ⟨?_,hD p (by simp only[dcsOf];exact List.mem_append_left _ hp)⟩
        have hp:p∈e'.dc:=hp
        rw[ho.1] at hp
        simp only[List.mem_singleton] at hp
        subst hp
        exact hid
       ·cases h
      ·cases h
    ·cases h
   ·cases h
def WPD (P:Program) (D:List (Nat×Nat×Bool)) (c:Code) (S:St) (K:Exit→St→Prop):Prop:=∀β a x,Rep β S a x→DcOK β D→(∀p∈D,p.1<S.q)→c.wp P (Post S β x K) a x
def evD (P:Program) (cx:Cz) (rb:Nat→Option (List Bool)) (D:List (Nat×Nat×Bool)):Code→St→(Exit→St→Prop)→Prop
 |.skip,S,K=>K .normal S
 |.region id ops draw,S,K=>match rb id,draw with
  |some bs,false=>match trace P cx.toCy ops.toList S.n ops.toList bs S with
   |some (l,S')=>dcsOf l=D∧obsT l (K .normal S')
   |none=>Bad id 777
  |_,_=>regA id P cx.toCy ops.toList draw S (K .normal)
 |.seq c d,S,K=>evD P cx rb D c S fun e S'=>match e with | .normal=>evD P cx rb D d S' K|e=>K e S'
 |.ret,S,K=>K .ret S
 |_,_,_=>False
theorem evD_sound {P:Program} {cx:Cz} {rb:Nat→Option (List Bool)} {D:List (Nat×Nat×Bool)} (hm:P.follows .mixedOrders=true):∀(c:Code) (S:St) (K:Exit→St→Prop),evD P cx rb D c S K→WPD P D c S K
 |.skip,S,K,h=>fun β a x hR _ _=>ev_sound (cx:=cx) hm .skip S K h β a x hR
 |.ret,S,K,h=>fun β a x hR _ _=>ev_sound (cx:=cx) hm .ret S K h β a x hR
 |.region id ops draw,S,K,h=>fun β a x hR hdc hq=>by
  unfold evD at h
  split at h
  ·rename_i bs _
   split at h
   ·rename_i l S' ht
    obtain ⟨hl,h⟩:=h
    obtain ⟨ho,hk⟩:=obsT_iff.1 h
    have hT:=trace_bs (P:=P) β.c ops.toList bs S S' l ht (fun p hp v hv=>hdc p (hl▸hp) v hv)
    obtain ⟨_,_,h3,h4⟩:=trace_mono hT
    refine wp_region ?_
    have:=seq_ops (P:=P) (Q:=Post S β x K) ops.toList 0 S S' l a x β (fun j=>by simp) hT (Nat.le_refl _) (fun _ _ _ h=>h) ho hR (fun β' a' x' hN hR'=>⟨S',β',hk,h4.symm,fun i hi _=>h3 i hi,hN,hR'⟩)
    rw[List.range_eq_range']
    simpa using this
   ·exact nomatch h
  ·exact reg_sound hm h β a x hR
 |.seq c d,S,K,h=>fun β a x hR hdc hq=>by
  have h1:=evD_sound hm c S _ h
  refine wp_seq (wp_mono (h1 β a x hR hdc hq) ?_)
  rintro e a' x' ⟨S',β',k,h1,h2,h3,h4⟩
  cases e with
  |normal=>
   have hd':DcOK β' D:=fun p hp v hv=>hdc p hp v (by rw[←h3.oldc p.1 (hq p hp)];exact hv)
   exact wp_mono (evD_sound hm d S' K k β' a' x' h4 hd' (fun p hp=>by rw[h1];exact hq p hp)) (Post.chain h1 h2 h3)
  |exit i=>exact ⟨S',β',k,h1,h2,h3,h4⟩
  |goto i=>exact ⟨S',β',k,h1,h2,h3,h4⟩
  |ret=>exact ⟨S',β',k,h1,h2,h3,h4⟩
  |panic i=>exact ⟨S',β',k,h1,h2,h3,h4⟩
  |outgrown=>exact ⟨S',β',k,h1,h2,h3,h4⟩
set_option maxHeartbeats 1000000 in
theorem call_okW {P:Program} {D:List (Nat×Nat×Bool)} {f:Nat} {fn:Func} {body:Code} (hf:P.funcs[f]? = some fn) (hb:fn.body=some body) (hent:Enters P f)
  {args:List SV} {H:List (Nat×Blk)} {n:Nat} {v:SV} {wr:List (Nat×Blk)} {nm:List Nat} (hck:inck args H n fn.ntmps wr nm=true) (hD:(D.all fun p=>Nat.blt p.1 n)=true) (h:WPD P D body (st0 args H n fn.ntmps) (finK P fn.results.toList n v wr nm)):CallOKd P f D args H n v wr nm.length:=by
 refine ⟨hent,fun β x vals hd hinj hlt hnone hH hdc=>?_⟩
 simp only[inck,Bool.and_eq_true] at hck
 obtain ⟨c1,c2,c3,c4,c5,c6⟩:=hck
 have c1:=Nat.le_of_ble_eq_true c1
 have hd':=ltN_all (cut_to (n:=n)) c2 hd
 have hdl:=hd.length
 have hR:Rep (cut β n) (st0 args H n fn.ntmps) {tmps:=vals.toArray++Array.replicate (fn.ntmps-vals.toArray.size) undef,defers:=[]} x:=by
  refine ⟨fun t=>?_,by simp[st0];omega,rfl,fun id b k hb hk=>?_,fun i j b hi hj=>hinj i j b (cut_some hi).2 (cut_some hj).2,fun i b hb=>⟨hlt i b (cut_some hb).2,(cut_some hb).1⟩,fun i v hv=>(cut_somec hv).1,Nat.le_refl _⟩
  ·show SV.den _ (match lk (numb 0 args) t with|some v=>v|none=>.u) _
   cases hq:lk (numb 0 args) t with
   |none=>trivial
   |some s=>
    obtain ⟨_,hs⟩:=lk_numb hq
    obtain ⟨y,hy,hyd⟩:=hd'.get hs
    have hlt':t<vals.length:=(List.getElem?_eq_some_iff.1 hy).1
    have:Act.eval {tmps:=vals.toArray++Array.replicate (fn.ntmps-vals.toArray.size) undef,defers:=[]} (.tmp t)=y:=by
     show (vals.toArray++Array.replicate (fn.ntmps-vals.toArray.size) undef).getD t undef=y
     rw[Array.getD_eq_getD_getElem?,Array.getElem?_append_left (by simpa using hlt')]
     have hy':vals[t]? = some y:=by simpa using hy
     simp[hy']
    rw[this];exact hyd
  ·have hk':lk H id=some k:=by
    have:(st0 args H n fn.ntmps).blk id=match lk (H.map fun p=>(p.1,some p.2)) id with|some b=>b|none=>none:=rfl
    rw[this,lk_map] at hk
    cases hq:lk H id with
    |none=>rw[hq] at hk;cases hk
    |some k'=>rw[hq] at hk;exact hk
   exact blkLt_den ((List.all_eq_true.1 c3) _ (lk_mem hk')) (hH id b k (cut_some hb).2 hk') cut_to
 have fin':∀S' β' a' x',fin P fn.results.toList n v wr nm S'→Nx n S'.W (cut β n) x β' x'→Rep β' S' a' x'→
   a'.defers=[]∧∃y,(results fn a'.tmps).run P x'=.ok y x'∧∃y' β'',Ending.returned y=.returned y'∧Done n nm.length β x wr v y' β'' x':=by
  intro S' β' a' x' hfin hN hR'
  unfold fin at hfin
  split at hfin
  ·rename_i v' hv'
   split at hfin
   ·rename_i v'' hv''
    obtain ⟨hle,hwr⟩:=hfin
    split at hwr
    ·rename_i hwck
     obtain ⟨y,hy,hyd⟩:=resV_sound hR' hv'
     obtain ⟨β₂,hβ₂⟩:∃g:Bt,g=⟨fun id=>if id<n then β id else if id<n+nm.length then (match nm[id-n]? with|some j=>β' j|none=>none) else β id,
      fun id=>if id<n then β.c id else if id<n+nm.length then (match nm[id-n]? with|some j=>β'.c j|none=>none) else β.c id⟩:=⟨_,rfl⟩
     refine ⟨hR'.defs,y,hy,y,β₂,rfl,?_⟩
     have b1:∀id,id<n→β₂ id=β id:=fun id hi=>by rw[hβ₂];exact if_pos hi
     have d1:∀id,id<n→β₂.c id=β.c id:=fun id hi=>by rw[hβ₂];exact if_pos hi
     have b2:∀q j,nm[q]? = some j→β₂ (n+q)=β' j:=fun q j hq=>by
      have hql:q<nm.length:=(List.getElem?_eq_some_iff.1 hq).1
      rw[hβ₂]
      show (if n+q<n then _ else _)=_
      rw[if_neg (by omega),if_pos (by omega),show n+q-n=q by omega,hq]
     have d2:∀q j,nm[q]? = some j→β₂.c (n+q)=β'.c j:=fun q j hq=>by
      have hql:q<nm.length:=(List.getElem?_eq_some_iff.1 hq).1
      rw[hβ₂]
      show (if n+q<n then _ else _)=_
      rw[if_neg (by omega),if_pos (by omega),show n+q-n=q by omega,hq]
     have b3:∀id,n+nm.length≤id→β₂ id=β id:=fun id hi=>by
      rw[hβ₂];show (if id<n then _ else _)=_;rw[if_neg (by omega),if_neg (by omega)]
     have d3:∀id,n+nm.length≤id→β₂.c id=β.c id:=fun id hi=>by
      rw[hβ₂];show (if id<n then _ else _)=_;rw[if_neg (by omega),if_neg (by omega)]
     have b4:∀id,id<n→β' id=β id:=fun id hi=>(hN.old id hi).trans (cut_lt hi)
     have d4:∀id,id<n→β'.c id=β.c id:=fun id hi=>(hN.oldc id hi).trans (cut_ltc hi)
     have hnmge:∀q j,nm[q]? = some j→n≤j:=fun q j hq=>Nat.le_of_ble_eq_true ((List.all_eq_true.1 c5) j (List.mem_of_getElem? hq))
     have hnew:∀q j b,nm[q]? = some j→β' j=some b→x.heap.size≤b:=fun q j b hq hb=>by
      rcases hN.new j b hb with ⟨h1,_⟩|⟨_,h2|⟨i,h2,h3⟩⟩
      ·have:=hnmge q j hq;omega
      ·exact h2
      ·have:=(cut_some h3).1;omega
          -- where a name of β₂ comes from
     have src:∀id b,β₂ id=some b→(β id=some b∧(id<n∨n+nm.length≤id))∨(∃q j,nm[q]? = some j∧id=n+q∧β' j=some b):=fun id b hb=>by
      by_cases h1:id<n
      ·rw[b1 id h1] at hb;exact .inl ⟨hb,.inl h1⟩
      ·by_cases h2:id<n+nm.length
       ·have hq:nm[id-n]? = some nm[id-n]:=List.getElem?_eq_getElem (by omega)
        have:=b2 (id-n) _ hq
        rw[show n+(id-n)=id by omega] at this
        rw[this] at hb
        exact .inr ⟨id-n,_,hq,by omega,hb⟩
       ·rw[b3 id (by omega)] at hb;exact .inl ⟨hb,.inr (by omega)⟩
     have hrn:RnTo (rnId n 0 nm) β' β₂:=⟨fun i j b hi hb=>by
      rcases rnId_spec hi with ⟨e,hl⟩|⟨q,hq,e⟩
      ·rw[e,b1 i hl,←b4 i hl];exact hb
      ·rw[e,show n+(0+q)=n+q by omega,b2 q i hq];exact hb,fun i j b hi hb=>by
      rcases rnId_spec hi with ⟨e,hl⟩|⟨q,hq,e⟩
      ·rw[e,d1 i hl,←d4 i hl];exact hb
      ·rw[e,show n+(0+q)=n+q by omega,d2 q i hq];exact hb⟩
     refine ⟨hle β₂ y (sv_rn hrn hv'' hyd),⟨fun id b hb=>?_,fun id b hb=>?_⟩,fun id b hb=>?_,fun id v hv=>?_,fun i j b hi hj=>?_,fun i b hb=>?_,hN.os,hN.tape,hN.output,hN.size,fun k hk hne=>?_,fun id b k hb hk=>?_⟩
     ·by_cases h1:id<n
      ·rw[b1 id h1];exact hb
      ·by_cases h2:id<n+nm.length
       ·rw[(hnone id (by omega) h2).1] at hb;cases hb
       ·rw[b3 id (by omega)];exact hb
     ·by_cases h1:id<n
      ·rw[d1 id h1];exact hb
      ·by_cases h2:id<n+nm.length
       ·rw[(hnone id (by omega) h2).2] at hb;cases hb
       ·rw[d3 id (by omega)];exact hb
     ·rcases src id b hb with ⟨h1,_⟩|⟨q,j,hq,e,hb'⟩
      ·exact .inl h1
      ·have hql:q<nm.length:=(List.getElem?_eq_some_iff.1 hq).1
       exact .inr ⟨by omega,by omega,hnew q j b hq hb'⟩
     ·by_cases h1:id<n
      ·rw[d1 id h1] at hv;exact .inl hv
      ·by_cases h2:id<n+nm.length
       ·exact .inr ⟨by omega,h2⟩
       ·rw[d3 id (by omega)] at hv;exact .inl hv
     ·rcases src i b hi with ⟨h1,_⟩|⟨q,j1,hq,e,hb'⟩
      ·rcases src j b hj with ⟨k1,_⟩|⟨q',j2,hq',e',hb''⟩
       ·exact hinj i j b h1 k1
       ·have:=hnew q' j2 b hq' hb'';have:=hlt i b h1;omega
      ·rcases src j b hj with ⟨k1,_⟩|⟨q',j2,hq',e',hb''⟩
       ·have:=hnew q j1 b hq hb';have:=hlt j b k1;omega
       ·have hjj:=hR'.inj j1 j2 b hb' hb''
        subst hjj
        have:=nodup_inj c6 hq hq'
        omega
     ·rcases src i b hb with ⟨h1,_⟩|⟨q,j,hq,e,hb'⟩
      ·exact Nat.lt_of_lt_of_le (hlt i b h1) hN.size
      ·exact (hR'.lt j b hb').1
     ·refine hN.keep k hk fun id hid=>⟨(cut_some hid).1,fun hw=>?_⟩
      have:=(List.all_eq_true.1 hwck) id hw
      simp only[Bool.or_eq_true] at this
      rcases this with h1|h1
      ·have:=Nat.le_of_ble_eq_true h1;have:=(cut_some hid).1;omega
      ·rw[hne id (cut_some hid).2] at h1;cases h1
     ·obtain ⟨k',h1,h2⟩:=wrs_spec hwr hk
      have hidlt:id<n+nm.length:=Nat.le_of_ble_eq_true ((List.all_eq_true.1 c4) _ (lk_mem hk))
      have hb':β' (srcId n nm id)=some b:=by
       unfold srcId
       rcases src id b hb with ⟨q1,q2⟩|⟨q,j,hq,e,hb'⟩
       ·rcases q2 with q2|q2
        ·have:Nat.blt id n=true:=Nat.ble_eq_true_of_le q2
         rw[this];simp only;rw[b4 id q2];exact q1
        ·omega
       ·have:Nat.blt id n=false:=by
         cases hbb:Nat.blt id n with
         |false=>rfl
         |true=>have:=Nat.le_of_ble_eq_true hbb;omega
        rw[this];simp only
        rw[e,show n+q-n=q by omega,List.getD,hq]
        exact hb'
      exact h2 β' β₂ x' b hrn (hR'.blk _ b k' hb' h1)
    ·exact hwr.elim
   ·exact hfin.elim
  ·exact hfin.elim
 refine calls_of_wp hf hb (wp_mono (h (cut β n) _ x hR (fun p hp v hv=>hdc p hp v (cut_somec hv).2) (fun p hp=>Nat.le_of_ble_eq_true ((List.all_eq_true.1 hD) p hp))) ?_)
 rintro e a' x' ⟨S',β',hk,h1,_,h3,h4⟩
 cases e with
 |normal=>exact fin' S' β' a' x' hk h3 h4
 |ret=>exact fin' S' β' a' x' hk h3 h4
 |exit i=>exact hk.elim
 |goto i=>exact hk.elim
 |panic i=>exact hk.elim
 |outgrown=>exact hk.elim
set_option maxHeartbeats 1000000 in
theorem fin_done {P:Program} {fn:Func} {args:List SV} {H:List (Nat×Blk)} {n:Nat} {v:SV} {wr:List (Nat×Blk)} {nm:List Nat} {β:Bt} {x:World} (hck:inck args H n fn.ntmps wr nm=true)
  (hinj:∀i j b,β i=some b→β j=some b→i=j) (hlt:∀i b,β i=some b→b<x.heap.size) (hnone:∀id,n≤id→id<n+nm.length→β id=none∧β.c id=none) :
  ∀S' β' a' x',fin P fn.results.toList n v wr nm S'→Nx n S'.W (cut β n) x β' x'→Rep β' S' a' x'→
   a'.defers=[]∧∃y,(results fn a'.tmps).run P x'=.ok y x'∧∃y' β'',Ending.returned y=.returned y'∧Done n nm.length β x wr v y' β'' x':=by
 simp only[inck,Bool.and_eq_true] at hck
 obtain ⟨c1,c2,c3,c4,c5,c6⟩:=hck
 intro S' β' a' x' hfin hN hR'
 unfold fin at hfin
 split at hfin
 ·rename_i v' hv'
  split at hfin
  ·rename_i v'' hv''
   obtain ⟨hle,hwr⟩:=hfin
   split at hwr
   ·rename_i hwck
    obtain ⟨y,hy,hyd⟩:=resV_sound hR' hv'
    obtain ⟨β₂,hβ₂⟩:∃g:Bt,g=⟨fun id=>if id<n then β id else if id<n+nm.length then (match nm[id-n]? with|some j=>β' j|none=>none) else β id,
     fun id=>if id<n then β.c id else if id<n+nm.length then (match nm[id-n]? with|some j=>β'.c j|none=>none) else β.c id⟩:=⟨_,rfl⟩
    refine ⟨hR'.defs,y,hy,y,β₂,rfl,?_⟩
    have b1:∀id,id<n→β₂ id=β id:=fun id hi=>by rw[hβ₂];exact if_pos hi
    have d1:∀id,id<n→β₂.c id=β.c id:=fun id hi=>by rw[hβ₂];exact if_pos hi
    have b2:∀q j,nm[q]? = some j→β₂ (n+q)=β' j:=fun q j hq=>by
     have hql:q<nm.length:=(List.getElem?_eq_some_iff.1 hq).1
     rw[hβ₂]
     show (if n+q<n then _ else _)=_
     rw[if_neg (by omega),if_pos (by omega),show n+q-n=q by omega,hq]
    have d2:∀q j,nm[q]? = some j→β₂.c (n+q)=β'.c j:=fun q j hq=>by
     have hql:q<nm.length:=(List.getElem?_eq_some_iff.1 hq).1
     rw[hβ₂]
     show (if n+q<n then _ else _)=_
     rw[if_neg (by omega),if_pos (by omega),show n+q-n=q by omega,hq]
    have b3:∀id,n+nm.length≤id→β₂ id=β id:=fun id hi=>by
     rw[hβ₂];show (if id<n then _ else _)=_;rw[if_neg (by omega),if_neg (by omega)]
    have d3:∀id,n+nm.length≤id→β₂.c id=β.c id:=fun id hi=>by
     rw[hβ₂];show (if id<n then _ else _)=_;rw[if_neg (by omega),if_neg (by omega)]
    have b4:∀id,id<n→β' id=β id:=fun id hi=>(hN.old id hi).trans (cut_lt hi)
    have d4:∀id,id<n→β'.c id=β.c id:=fun id hi=>(hN.oldc id hi).trans (cut_ltc hi)
    have hnmge:∀q j,nm[q]? = some j→n≤j:=fun q j hq=>Nat.le_of_ble_eq_true ((List.all_eq_true.1 c5) j (List.mem_of_getElem? hq))
    have hnew:∀q j b,nm[q]? = some j→β' j=some b→x.heap.size≤b:=fun q j b hq hb=>by
     rcases hN.new j b hb with ⟨h1,_⟩|⟨_,h2|⟨i,h2,h3⟩⟩
     ·have:=hnmge q j hq;omega
     ·exact h2
     ·have:=(cut_some h3).1;omega
        -- where a name of β₂ comes from
    have src:∀id b,β₂ id=some b→(β id=some b∧(id<n∨n+nm.length≤id))∨(∃q j,nm[q]? = some j∧id=n+q∧β' j=some b):=fun id b hb=>by
     by_cases h1:id<n
     ·rw[b1 id h1] at hb;exact .inl ⟨hb,.inl h1⟩
     ·by_cases h2:id<n+nm.length
      ·have hq:nm[id-n]? = some nm[id-n]:=List.getElem?_eq_getElem (by omega)
       have:=b2 (id-n) _ hq
       rw[show n+(id-n)=id by omega] at this
       rw[this] at hb
       exact .inr ⟨id-n,_,hq,by omega,hb⟩
      ·rw[b3 id (by omega)] at hb;exact .inl ⟨hb,.inr (by omega)⟩
    have hrn:RnTo (rnId n 0 nm) β' β₂:=⟨fun i j b hi hb=>by
     rcases rnId_spec hi with ⟨e,hl⟩|⟨q,hq,e⟩
     ·rw[e,b1 i hl,←b4 i hl];exact hb
     ·rw[e,show n+(0+q)=n+q by omega,b2 q i hq];exact hb,fun i j b hi hb=>by
     rcases rnId_spec hi with ⟨e,hl⟩|⟨q,hq,e⟩
     ·rw[e,d1 i hl,←d4 i hl];exact hb
     ·rw[e,show n+(0+q)=n+q by omega,d2 q i hq];exact hb⟩
    refine ⟨hle β₂ y (sv_rn hrn hv'' hyd),⟨fun id b hb=>?_,fun id b hb=>?_⟩,fun id b hb=>?_,fun id v hv=>?_,fun i j b hi hj=>?_,fun i b hb=>?_,hN.os,hN.tape,hN.output,hN.size,fun k hk hne=>?_,fun id b k hb hk=>?_⟩
    ·by_cases h1:id<n
     ·rw[b1 id h1];exact hb
     ·by_cases h2:id<n+nm.length
      ·rw[(hnone id (by omega) h2).1] at hb;cases hb
      ·rw[b3 id (by omega)];exact hb
    ·by_cases h1:id<n
     ·rw[d1 id h1];exact hb
     ·by_cases h2:id<n+nm.length
      ·rw[(hnone id (by omega) h2).2] at hb;cases hb
      ·rw[d3 id (by omega)];exact hb
    ·rcases src id b hb with ⟨h1,_⟩|⟨q,j,hq,e,hb'⟩
     ·exact .inl h1
     ·have hql:q<nm.length:=(List.getElem?_eq_some_iff.1 hq).1
      exact .inr ⟨by omega,by omega,hnew q j b hq hb'⟩
    ·by_cases h1:id<n
     ·rw[d1 id h1] at hv;exact .inl hv
     ·by_cases h2:id<n+nm.length
      ·exact .inr ⟨by omega,h2⟩
      ·rw[d3 id (by omega)] at hv;exact .inl hv
    ·rcases src i b hi with ⟨h1,_⟩|⟨q,j1,hq,e,hb'⟩
     ·rcases src j b hj with ⟨k1,_⟩|⟨q',j2,hq',e',hb''⟩
      ·exact hinj i j b h1 k1
      ·have:=hnew q' j2 b hq' hb'';have:=hlt i b h1;omega
     ·rcases src j b hj with ⟨k1,_⟩|⟨q',j2,hq',e',hb''⟩
      ·have:=hnew q j1 b hq hb';have:=hlt j b k1;omega
      ·have hjj:=hR'.inj j1 j2 b hb' hb''
       subst hjj
       have:=nodup_inj c6 hq hq'
       omega
    ·rcases src i b hb with ⟨h1,_⟩|⟨q,j,hq,e,hb'⟩
     ·exact Nat.lt_of_lt_of_le (hlt i b h1) hN.size
     ·exact (hR'.lt j b hb').1
    ·refine hN.keep k hk fun id hid=>⟨(cut_some hid).1,fun hw=>?_⟩
     have:=(List.all_eq_true.1 hwck) id hw
     simp only[Bool.or_eq_true] at this
     rcases this with h1|h1
     ·have:=Nat.le_of_ble_eq_true h1;have:=(cut_some hid).1;omega
     ·rw[hne id (cut_some hid).2] at h1;cases h1
    ·obtain ⟨k',h1,h2⟩:=wrs_spec hwr hk
     have hidlt:id<n+nm.length:=Nat.le_of_ble_eq_true ((List.all_eq_true.1 c4) _ (lk_mem hk))
     have hb':β' (srcId n nm id)=some b:=by
      unfold srcId
      rcases src id b hb with ⟨q1,q2⟩|⟨q,j,hq,e,hb'⟩
      ·rcases q2 with q2|q2
       ·have:Nat.blt id n=true:=Nat.ble_eq_true_of_le q2
        rw[this];simp only;rw[b4 id q2];exact q1
       ·omega
      ·have:Nat.blt id n=false:=by
        cases hbb:Nat.blt id n with
        |false=>rfl
        |true=>have:=Nat.le_of_ble_eq_true hbb;omega
       rw[this];simp only
       rw[e,show n+q-n=q by omega,List.getD,hq]
       exact hb'
     exact h2 β' β₂ x' b hrn (hR'.blk _ b k' hb' h1)
   ·exact hwr.elim
  ·exact hfin.elim
 ·exact hfin.elim
set_option maxHeartbeats 1000000 in
theorem call_ok2 {P:Program} {cx:Cz} (hm:P.follows .mixedOrders=true) (N1:Nat) {f:Nat} {fn:Func} {body:Code} (hf:P.funcs[f]? = some fn) (hb:fn.body=some body) (hent:Enters P f)
  {args:List SV} {H:List (Nat×Blk)} {n:Nat} {v:SV} {wr:List (Nat×Blk)} {nm nm2:List Nat} (hck:inck args H n fn.ntmps wr nm=true) (hck2:inck args H n fn.ntmps wr nm2=true) (hl:nm2.length=nm.length) (h:ev P cx body (st0 args H n fn.ntmps) fun e S=>match Nat.beq S.n N1 with|true=>finK P fn.results.toList n v wr nm e S|false=>finK P fn.results.toList n v wr nm2 e S):CallOK P f args H n v wr nm.length:=by
 refine ⟨hent,fun β x vals hd hinj hlt hnone hH _=>?_⟩
 have hck0:=hck
 simp only[inck,Bool.and_eq_true] at hck
 obtain ⟨c1,c2,c3,c4,c5,c6⟩:=hck
 have c1:=Nat.le_of_ble_eq_true c1
 have hd':=ltN_all (cut_to (n:=n)) c2 hd
 have hdl:=hd.length
 have hR:Rep (cut β n) (st0 args H n fn.ntmps) {tmps:=vals.toArray++Array.replicate (fn.ntmps-vals.toArray.size) undef,defers:=[]} x:=by
  refine ⟨fun t=>?_,by simp[st0];omega,rfl,fun id b k hb hk=>?_,fun i j b hi hj=>hinj i j b (cut_some hi).2 (cut_some hj).2,fun i b hb=>⟨hlt i b (cut_some hb).2,(cut_some hb).1⟩,fun i v hv=>(cut_somec hv).1,Nat.le_refl _⟩
  ·show SV.den _ (match lk (numb 0 args) t with|some v=>v|none=>.u) _
   cases hq:lk (numb 0 args) t with
   |none=>trivial
   |some s=>
    obtain ⟨_,hs⟩:=lk_numb hq
    obtain ⟨y,hy,hyd⟩:=hd'.get hs
    have hlt':t<vals.length:=(List.getElem?_eq_some_iff.1 hy).1
    have:Act.eval {tmps:=vals.toArray++Array.replicate (fn.ntmps-vals.toArray.size) undef,defers:=[]} (.tmp t)=y:=by
     show (vals.toArray++Array.replicate (fn.ntmps-vals.toArray.size) undef).getD t undef=y
     rw[Array.getD_eq_getD_getElem?,Array.getElem?_append_left (by simpa using hlt')]
     have hy':vals[t]? = some y:=by simpa using hy
     simp[hy']
    rw[this];exact hyd
  ·have hk':lk H id=some k:=by
    have:(st0 args H n fn.ntmps).blk id=match lk (H.map fun p=>(p.1,some p.2)) id with|some b=>b|none=>none:=rfl
    rw[this,lk_map] at hk
    cases hq:lk H id with
    |none=>rw[hq] at hk;cases hk
    |some k'=>rw[hq] at hk;exact hk
   exact blkLt_den ((List.all_eq_true.1 c3) _ (lk_mem hk')) (hH id b k (cut_some hb).2 hk') cut_to
 refine calls_of_wp hf hb (wp_mono (ev_sound hm body _ _ h (cut β n) _ x hR) ?_)
 have hnone2:∀id,n≤id→id<n+nm2.length→β id=none∧β.c id=none:=fun id h1 h2=>hnone id h1 (by omega)
 rintro e a' x' ⟨S',β',hk,h1,_,h3,h4⟩
 split at hk
 ·cases e with
  |normal=>exact fin_done hck0 hinj hlt hnone S' β' a' x' hk h3 h4
  |ret=>exact fin_done hck0 hinj hlt hnone S' β' a' x' hk h3 h4
  |exit i=>exact hk.elim
  |goto i=>exact hk.elim
  |panic i=>exact hk.elim
  |outgrown=>exact hk.elim
 ·cases e with
  |normal=>have:=fin_done hck2 hinj hlt hnone2 S' β' a' x' hk h3 h4;rw[hl] at this;exact this
  |ret=>have:=fin_done hck2 hinj hlt hnone2 S' β' a' x' hk h3 h4;rw[hl] at this;exact this
  |exit i=>exact hk.elim
  |goto i=>exact hk.elim
  |panic i=>exact hk.elim
  |outgrown=>exact hk.elim
theorem RoundTo.reH {P:Program} {c:Code} {n:Nat} {K:Exit→St→Prop} (N k2:Nat) {h1:Nat×Option Blk} {b2:Option Blk} {E:List (Nat×SV)} {H:List (Nat×Option Blk)} {m q:Nat} {W:List Nat} (l:List (Nat×Option Nat)) (S:St) (hb:wkBR l ⟨E,h1::(k2,b2)::H,N,m,W,q⟩ S=true) (hE:wkER l ⟨E,h1::(k2,b2)::H,N,m,W,q⟩ S.n S.E) (hH:wkHR l ⟨E,h1::(k2,b2)::H,N,m,W,q⟩ S.n S.H) (h:WPL P c S K):RoundTo P c n K ⟨E,h1::(k2,b2)::H,N,m,W,q⟩:=RoundTo.re l S hb hE hH h
end Ab
end Go.Proofs.YtpdckpifhniioaaGreat
end
section
set_option linter.unusedVariables false
namespace Go.Proofs.YtpdckpifhniioaaGreat.Oct
open Go.RowKit
open Go.Proofs.YtpdckpifhniioaaGreat
open Go.Lib (strCells)
theorem infoU8:(Tryz.prog.info? 5).map (fun i=>(i.zero,i.size,i.bytes))=some (some (.int .u8 0),1,1):=by kernel_rfl
theorem row_ne {x:World} {B:Nat} {v:Value} {n:Nat} {xs:List Value} {g t:Nat} {c:Array Value} {fr:Nat×Nat} (h:x.ownsRow B 5 1 v n xs) (hg:x.heap[g]? = some (.cells c t fr)) (ht:t≠5):some g≠v.ownBlock:=by
 rcases h.2 with ⟨rfl,_⟩|⟨k,cap,cur,rfl,_,hk,_⟩
 ·simp[Value.ownBlock]
 ·intro e
  have e:g=k:=by simpa [Value.ownBlock] using e
  subst e
  rw[hg] at hk
  injection hk with hk
  injection hk with _ hk _
  exact ht hk
theorem own_mem {x:World} {B:Nat} {e:TypeId} {v:Value} {n:Nat} {xs:List Value} (h:x.ownsRow B e 1 v n xs):∃o c,v=.slice o n c:=by
 rcases h.2 with ⟨rfl,h0⟩|⟨g,cap,cur,rfl,_⟩
 ·exact ⟨none,0,by rw[h0]⟩
 ·exact ⟨_,_,rfl⟩
theorem sizeBld:(Tryz.prog.info? 101).map (·.size)=some 2:=by kernel_rfl
theorem liesBld:liesAt Tryz.prog Tryz.prog.depth 101 (2 / Tryz.prog.cellsOf 101) 0 101 1=true:=by kernel_rfl
set_option maxRecDepth 100000 in
set_option maxHeartbeats 1000000 in
theorem ck_used (b:Nat) (v:Value) (w:World) (h:w.heap[b]? = some (.cells #[.pointer (some ⟨b,0,none⟩),v] 101 (0,0))) :
  Calls Tryz.prog 110 #[.pointer (some ⟨b,0,none⟩)] w fun e w'=>e=.returned (.tuple #[])∧w'=w:=by
 obtain ⟨j,hj,_⟩:=Option.map_eq_some_iff.1 sizeBld
 have h0:w.cell? ⟨b,0,none⟩=some (.pointer (some ⟨b,0,none⟩)):=by rw[Lib.cell_of_heap h];rfl
 go_enter Tryz.func110,Tryz.ntmps110
 go_wp2
 rw[Lib.run_neq_ptr_same w _ Tryz.underlying99 hj]
 go_wp2
 refine bodyPost_end (results_none rfl _ _ _) rfl ⟨rfl,rfl⟩
set_option maxRecDepth 100000 in
set_option maxHeartbeats 1000000 in
theorem ck_fresh (b:Nat) (v:Value) (w:World) (h:w.heap[b]? = some (.cells #[.pointer none,v] 101 (0,0))) :
  Calls Tryz.prog 110 #[.pointer (some ⟨b,0,none⟩)] w fun e w'=>e=.returned (.tuple #[])∧w'=w.setCell ⟨b,0,none⟩ (.pointer (some ⟨b,0,none⟩)):=by
 obtain ⟨j,hj,hjs⟩:=Option.map_eq_some_iff.1 sizeBld
 have h0:w.cell? ⟨b,0,none⟩=some (.pointer none):=by rw[Lib.cell_of_heap h];rfl
 have hfz:w.frozen? ⟨b,0,none⟩=false:=Lib.frozen_of_heap h 0
 have hsh:w.shape? b=some (101,2):=by simp[World.shape?,h]
 clear h
 go_enter Tryz.func110,Tryz.ntmps110
 go_wp2
 rw[Lib.run_to_unsafe w ⟨b,0,none⟩ Tryz.underlying99 Tryz.underlying185 hj (by rw[hjs];decide) hsh (Nat.zero_lt_succ 1)]
 simp only[Result.andThen]
 rw[Oper.upon_value]
 go_wp2
 rw[run_callFunc_extern Tryz.func145 (by kernel_rfl) (by kernel_rfl) (by kernel_rfl) (e:=Extern.AbiNoEscape.same) (by kernel_rfl)]
 rw[Lib.run_noEscape]
 simp only[Result.andThen]
 rw[Oper.upon_value]
 go_wp2
 rw[Lib.run_from_unsafe w ⟨b,0,none⟩ Tryz.underlying185 Tryz.underlying99 hj hsh liesBld]
 simp only[Result.andThen]
 rw[Oper.upon_value]
 go_wp2
 refine bodyPost_end (results_none rfl _ _ _) rfl ⟨rfl,rfl⟩
structure HB (b:Nat) (l:List UInt8) (w:World):Prop where
 ex:∃p v,w.heap[b]? = some (.cells #[p,v] 101 (0,0))∧(p=.pointer none∨p=.pointer (some ⟨b,0,none⟩))∧w.ownsRow (b+1) 5 1 v l.length (bvals l)∧(l=[]→v=.slice none 0 0)
def Kp (b:Nat) (w w':World):Prop:=∀k c t fr,w.heap[k]? = some (.cells c t fr)→t≠5→k≠b→w'.heap[k]? = w.heap[k]?
theorem strCells_bvals (s:ByteArray):strCells s=bvals s.data.toList:=by
 rfl
set_option maxRecDepth 100000 in
set_option maxHeartbeats 1000000 in
theorem wstr (b:Nat) (l:List UInt8) (s:ByteArray) (w:World) (h:HB b l w) (hl:l.length+s.size≤100000000) :
  Calls Tryz.prog 47 #[.pointer (some ⟨b,0,none⟩),.string s] w fun e w'=>e=.returned (.tuple #[.int .i64 s.size,.nilIface])∧HB b (l++s.data.toList) w'∧Below b w w'∧Kp b w w':=by
 obtain ⟨p,v,h1,h2,h3,h4⟩:=h.ex
 have hlt:b<w.heap.size:=(Array.getElem?_eq_some_iff.1 h1).1
 have hck:Calls Tryz.prog 110 #[.pointer (some ⟨b,0,none⟩)] w fun e w'=>e=.returned (.tuple #[])∧w'.heap[b]? = some (.cells #[.pointer (some ⟨b,0,none⟩),v] 101 (0,0))∧w'.ownsRow (b+1) 5 1 v l.length (bvals l)∧Below b w w'∧b<w'.heap.size∧Kp b w w':=by
  rcases h2 with rfl|rfl
  ·refine (ck_fresh b v w h1).mono ?_
   rintro e w' ⟨rfl,rfl⟩
   refine ⟨rfl,?_,?_,(Below.refl b w).setCell (p:=⟨b,0,none⟩) (Nat.le_refl _) _,by simpa [World.setCell] using hlt,fun k c t fr hk ht hne=>heap_setCell_other _ _ _ _ hne⟩
   ·simp[World.setCell,Array.getElem?_modify,h1]
   ·refine h3.kept (row:=some b) ⟨rfl,rfl,rfl,by simp[World.setCell],fun k _ hk=>Below.heap_setCell _ _ _ _ (fun e=>hk (by simp[e]))⟩ (Or.inr ?_)
    exact (row_ne h3 h1 (by decide)).symm
  ·refine (ck_used b v w h1).mono ?_
   rintro e w' ⟨rfl,rfl⟩
   exact ⟨rfl,h1,h3,Below.refl b _,hlt,fun k c t fr hk ht hne=>rfl⟩
 have HC:=Lib.hid hck
 have HX:=Lib.hid h4
 clear hck h1 h2 h3 h h4
 obtain ⟨iu,hiu,hz1,hz2,hz3⟩:=info_parts infoU8
 go_enter Tryz.func47,Tryz.ntmps47
 go_wp2_with fail
 refine HC.out.mono ?_
 rintro e W ⟨rfl,h1,h2,h3,h4,hkp⟩
 clear HC
 replace hkp:=Lib.hid hkp
 have c1:W.cell? ⟨b,1,none⟩=some v:=by rw[Lib.cell_of_heap h1];rfl
 replace h1:=Lib.hid h1
 replace h3:=Lib.hid h3
 have hml:l.length+s.size≤maxLen:=by unfold maxLen;omega
 go_wp2_with (at_builtin;go_loud (refine Lib.wpList_append_own_string _ rfl _ _ 57 9 rfl (b+1) 5 iu Tryz.underlying57 Tryz.underlying9 hiu hz1 hz2 hz3 _ _ _ rfl h2 s rfl hml (by omega) (by omega) ?_))
 intro v' W2 hown hgr hnil
 have hbl:Below (b+1) W W2:=(Below.refl (b+1) W).grown hgr (by omega) fun k hk=>(h2.lt k hk).1
 have h12:W2.heap[b]? = some (.cells #[.pointer (some ⟨b,0,none⟩),v] 101 (0,0)):=by rw[hbl.block b (by omega)];exact h1.out
 have d1:W2.cell? ⟨b,1,none⟩=some v:=by rw[Lib.cell_of_heap h12];rfl
 have f1:W2.frozen? ⟨b,1,none⟩=false:=Lib.frozen_of_heap h12 1
 obtain ⟨so,sc,hv⟩:=own_mem hown
 have hlen:(l++s.data.toList).length=l.length+s.size:=by rw[List.length_append,Array.length_toList];rfl
 have HN:Hid (l++s.data.toList=[]→v'=.slice none 0 0):=Lib.hid fun e=>by
  have e1:l=[]:=(List.append_eq_nil_iff.1 e).1
  have e2:s.data.toList=[]:=(List.append_eq_nil_iff.1 e).2
  refine hnil.2 ⟨?_,?_⟩
  ·rcases h2.2 with ⟨hvv,_⟩|⟨g,cap,cur,hvv,q1,q2,q3,q4,q5,q6⟩
   ·exact hvv
   ·exact absurd (HX.out e1) (by rw[hvv];simp)
  ·have:=congrArg List.length e2;simpa using this
 subst hv
 have HB2:Hid (HB b (l++s.data.toList) (W2.setCell ⟨b,1,none⟩ (.slice so (l.length+s.size) sc))):=by
  refine Lib.hid ⟨_,.slice so (l.length+s.size) sc,?_,.inr rfl,?_,HN.out⟩
  ·simp[World.setCell,Array.getElem?_modify,h12]
  ·rw[bvals_append,hlen,←strCells_bvals]
   refine hown.kept (row:=some b) ⟨rfl,rfl,rfl,by simp[World.setCell],fun k _ hk=>Below.heap_setCell _ _ _ _ (fun e=>hk (by simp[e]))⟩ (Or.inr ?_)
   exact (row_ne hown h12 (by decide)).symm
 have HW:Hid (Below b w (W2.setCell ⟨b,1,none⟩ (.slice so (l.length+s.size) sc))):=by
  refine Lib.hid ((h3.out.trans ?_).setCell (p:=⟨b,1,none⟩) (Nat.le_refl _) _)
  exact ⟨hbl.os,hbl.tape,hbl.output,hbl.size,fun k hk=>hbl.block k (by omega)⟩
 have HK:Hid (Kp b w (W2.setCell ⟨b,1,none⟩ (.slice so (l.length+s.size) sc))):=by
  refine Lib.hid fun k c t fr hk ht hne=>?_
  have e1:=hkp.out k c t fr hk ht hne
  have hk1:W.heap[k]? = some (.cells c t fr):=e1.trans hk
  rw[heap_setCell_other _ _ _ _ hne,hgr.block k (Array.getElem?_eq_some_iff.1 hk1).1 (fun e=>row_ne h2 hk1 ht e),e1]
 clear hown h12 hbl h1 h3 hgr hnil HN HX h2 hkp
 go_wp2
 go_ret2
 exact ⟨rfl,HB2.out,HW.out,HK.out⟩
structure HF (b:Nat) (l:List UInt8) (w:World):Prop where
 ex:∃p v,w.heap[b]? = some (.cells #[p,v] 101 (0,0))∧((l=[]∧v=.slice none 0 0)∨(l≠[]∧∃g cap cur fr,v=.slice (some ⟨g,0,none⟩) l.length cap∧b+1≤g∧w.heap[g]? = some (.cells cur 5 fr)∧l.length≤cap∧cap≤maxLen∧cur.size=cap∧cur.toList.take l.length=bvals l))
theorem HB.hf {b l w} (h:HB b l w):HF b l w:=by
 obtain ⟨p,v,h1,h2,h3,h4⟩:=h.ex
 refine ⟨p,v,h1,?_⟩
 by_cases h0:l=[]
 ·exact .inl ⟨h0,h4 h0⟩
 ·refine .inr ⟨h0,?_⟩
  rcases h3.2 with ⟨_,hz⟩|⟨g,cap,cur,r1,r2,r3,r4,r5,r6,r7⟩
  ·exact absurd (List.length_eq_zero_iff.1 hz) h0
  ·exact ⟨g,cap,cur,(0,0),r1,r2,r3,r4,r5,by omega,by simpa using r7⟩
theorem cellsU8:Tryz.prog.cellsOf 5=1:=by kernel_rfl
theorem freeze_keeps {w:World} {g n:Nat} {cur:Array Value} {t fr} (hg:w.heap[g]? = some (.cells cur t fr)):∃fr',(w.freeze ⟨g,0,none⟩ n).heap[g]? = some (.cells cur t fr'):=by
 unfold World.freeze
 split
 ·exact ⟨fr,hg⟩
 ·simp only[Array.getElem?_modify]
  simp[hg]
theorem freeze_other {w:World} {g n k:Nat} (h:k≠g):(w.freeze ⟨g,0,none⟩ n).heap[k]? = w.heap[k]?:=by
 unfold World.freeze
 split
 ·rfl
 ·simp only[Array.getElem?_modify]
  simp[Ne.symm h]
set_option maxRecDepth 100000 in
set_option maxHeartbeats 1000000 in
theorem bstring (b:Nat) (l:List UInt8) (w:World) (h:HF b l w) :
  Calls Tryz.prog 54 #[.pointer (some ⟨b,0,none⟩)] w fun e w'=>e=.returned (.string ⟨l.toArray⟩)∧HF b l w'∧Below (b+1) w w'∧Kp b w w':=by
 obtain ⟨p,v,h1,h2|⟨h0,g,cap,cur,fr,rfl,r2,r3,r4,r5,r6,r7⟩⟩:=h.ex
 ·obtain ⟨rfl,rfl⟩:=h2
  have hf:HF b [] w.drew:=⟨h.ex⟩
  have c1:w.drew.cell? ⟨b,1,none⟩=some (.slice none 0 0):=by
   have:w.drew.heap[b]? = some (.cells #[p,.slice none 0 0] 101 (0,0)):=h1
   rw[Lib.cell_of_heap this];rfl
  have hSD:(Builtin.unsafeSliceData_ #[57] 171 #[.slice none 0 0]).run Tryz.prog w.drew=.ok (.pointer none) w.drew:=rfl
  have hUS:(Builtin.unsafeString_ #[171,3] 9 #[.pointer none,.int .i64 0]).run Tryz.prog w.drew=.ok (.string .empty) w.drew:=Lib.run_unsafeString_none _ _ _ _ _
  clear h h1
  go_enter Tryz.func54,Tryz.ntmps54
  go_wp2
  go_region
  all_goals (go_wp2;go_ret;exact ⟨rfl,hf,Below.drew (Below.refl _ w),fun k c t fr hk ht hne=>rfl⟩)
 ·have hl:0<l.length:=by cases l with|nil=>exact absurd rfl h0|cons=>simp
  have c1:w.drew.cell? ⟨b,1,none⟩=some (.slice (some ⟨g,0,none⟩) l.length cap):=by
   have:w.drew.heap[b]? = some (.cells #[p,.slice (some ⟨g,0,none⟩) l.length cap] 101 (0,0)):=h1
   rw[Lib.cell_of_heap this];rfl
  have hSD:(Builtin.unsafeSliceData_ #[57] 171 #[.slice (some ⟨g,0,none⟩) l.length cap]).run Tryz.prog w.drew=.ok (.pointer (some ⟨g,0,none⟩)) w.drew:=
   Lib.run_unsafeSliceData_row _ _ _ _ _ _ (by omega)
  have hUS:(Builtin.unsafeString_ #[171,3] 9 #[.pointer (some ⟨g,0,none⟩),.int .i64 l.length]).run Tryz.prog w.drew=.ok (.string ⟨l.toArray⟩) (w.drew.freeze ⟨g,0,none⟩ l.length):=by
   refine Lib.run_unsafeString_row w.drew 171 3 9 5 Tryz.underlying171 cellsU8 g cur.size (by have hg':w.drew.heap[g]? = some (.cells cur 5 fr):=r3;simp[World.shape?,hg']) l h0 (by omega) (by unfold maxLen at r5;omega) ?_
   intro j x hx
   have hj:j<l.length:=(List.getElem?_eq_some_iff.1 hx).1
   have hg':w.drew.heap[g]? = some (.cells cur 5 fr):=r3
   have e:(⟨g,0,none⟩:Addr).add j=⟨g,j,none⟩:=by unfold Addr.add;split<;>simp_all
   rw[e,Lib.cell_of_heap hg']
   have h3:(cur.toList.take l.length)[j]? = some (.int .u8 x.toNat):=by rw[r7];simp[bvals,hx]
   rw[List.getElem?_take,if_pos hj,Array.getElem?_toList] at h3
   exact h3
  have hf:HF b l (w.drew.freeze ⟨g,0,none⟩ l.length):=by
   obtain ⟨fr',h5⟩:=freeze_keeps (w:=w.drew) (n:=l.length) r3
   refine ⟨p,_,?_,.inr ⟨h0,g,cap,cur,fr',rfl,r2,h5,r4,r5,r6,r7⟩⟩
   rw[freeze_other (by omega)];exact h1
  have HK:Hid (Kp b w (w.drew.freeze ⟨g,0,none⟩ l.length)):=Lib.hid fun k c t fr' hk ht hne=>by
   rw[freeze_other (fun e=>by subst e;rw[r3] at hk;injection hk with hk;injection hk with _ hk _;exact ht hk.symm)];rfl
  clear h h1 r3 r4 r5 r6 r7
  go_enter Tryz.func54,Tryz.ntmps54
  go_wp2
  go_region
  all_goals (go_wp2;go_ret;exact ⟨rfl,hf,Lib.below_freeze (Below.drew (Below.refl _ w)) (p:=⟨g,0,none⟩) r2 _,HK.out⟩)
end Go.Proofs.YtpdckpifhniioaaGreat.Oct
end
section
set_option linter.unusedVariables false
namespace Go.Proofs.YtpdckpifhniioaaGreat
open Go.RowKit
namespace Ab
theorem enters110:Enters Tryz.prog 110:=fun args w=>by go_simp
theorem enters54:Enters Tryz.prog 54:=fun args w=>by go_simp
theorem blkE2 {β:Bt} {x:World} {b t:Nat} {l0 l1:Leaf} (h:BlkAt β x b ⟨[l0,l1],.e t⟩):∃y0 y1,x.heap[b]? = some (.cells #[y0,y1] t (0,0))∧l0.den β y0∧l1.den β y1:=by
 rcases h with (⟨h,_⟩|⟨h,_⟩)|⟨ys,zs,h1,h2,h3⟩
 ·cases h
 ·cases h
 have hz:zs=[]:=by
  have:ys.length=(ys++zs).length:=h3
  rw[List.length_append] at this
  exact List.eq_nil_of_length_eq_zero (by omega)
 subst hz
 match ys,h2 with
 |[y0,y1],⟨d0,d1,_⟩=>exact ⟨y0,y1,by simpa [BT.ty,BT.fr] using h1,d0,d1⟩
 |[],h2=>exact h2.elim
 |[_],h2=>exact h2.2.elim
 |_::_::_::_,h2=>exact h2.2.2.elim
theorem mkE2 {β:Bt} {x:World} {b t:Nat} {l0 l1:Leaf} {y0 y1:Value} (h:x.heap[b]? = some (.cells #[y0,y1] t (0,0))) (d0:l0.den β y0) (d1:l1.den β y1):BlkAt β x b ⟨[l0,l1],.e t⟩:=
 .inr ⟨[y0,y1],[],by simpa [BT.ty,BT.fr] using h,⟨d0,d1,trivial⟩,rfl⟩
theorem done_wr {n:Nat} {β:Bt} {x x':World} {wr:List (Nat×Blk)} {v:SV} {y:Value} (hinj:∀i j b,β i=some b→β j=some b→i=j) (hlt:∀i b,β i=some b→b<x.heap.size) (hd:v.den β y)
  (h1:x'.os=x.os) (h2:x'.tape=x.tape) (h3:x'.output=x.output) (hs:x.heap.size≤x'.heap.size) (hk:∀k,k<x.heap.size→(∀id,β id=some k→lk wr id=none)→x'.heap[k]? = x.heap[k]?)
  (hb:∀id b k,β id=some b→lk wr id=some k→BlkAt β x' b k):Done n 0 β x wr v y β x':=
 ⟨hd,Ext.refl β,fun _ _ h=>.inl h,fun _ _ h=>.inl h,hinj,fun i b h=>Nat.lt_of_lt_of_le (hlt i b h) hs,h1,h2,h3,hs,hk,hb⟩
theorem lk_one {k:Nat} {v:Blk} {i:Nat} {w:Blk} (h:lk [(k,v)] i=some w):i=k∧w=v:=by
 have:=lk_mem h
 simp only[List.mem_singleton,Prod.mk.injEq] at this
 exact this
theorem C110f (id n:Nat) (lx:Leaf):CallOK Tryz.prog 110 [.c (.l (.p id 0))] [(id,⟨[.v (.pointer none),lx],.e 101⟩)] n (.tup []) [(id,⟨[.p id 0,lx],.e 101⟩)] 0:=by
 refine ⟨enters110,fun β x vals hv hinj hlt hnew hH _=>?_⟩
 match vals,hv with
 |[y],⟨⟨b,hb,hy⟩,_⟩=>
  subst hy
  obtain ⟨y0,y1,h1,d0,d1⟩:=blkE2 (hH id b _ hb (lk_cons_eq _ _ _))
  obtain ⟨d0,_⟩:=d0
  subst d0
  refine (Oct.ck_fresh b y1 x h1).mono ?_
  rintro e x' ⟨rfl,rfl⟩
  have hh:(x.setCell ⟨b,0,none⟩ (.pointer (some ⟨b,0,none⟩))).heap[b]? = some (.cells #[.pointer (some ⟨b,0,none⟩),y1] 101 (0,0)):=by
   rw[heap_setCell_same _ _ _ _ _ _ h1];simp
  refine ⟨_,β,rfl,done_wr hinj hlt ⟨[],rfl,trivial⟩ rfl rfl rfl (by simp[World.setCell]) (fun k hk hne=>heap_setCell_other _ _ _ _ (fun e=>?_)) (fun i c k hi hk=>?_)⟩
  ·have e:k=b:=e
   subst e
   have:=hne id hb
   rw[lk_cons_eq] at this;cases this
  ·obtain ⟨rfl,rfl⟩:=lk_one hk
   rw[hb] at hi;cases hi
   exact mkE2 hh ⟨b,hb,rfl⟩ d1
theorem C110u (id n:Nat) (lx:Leaf):CallOK Tryz.prog 110 [.c (.l (.p id 0))] [(id,⟨[.p id 0,lx],.e 101⟩)] n (.tup []) [(id,⟨[.p id 0,lx],.e 101⟩)] 0:=by
 refine ⟨enters110,fun β x vals hv hinj hlt hnew hH _=>?_⟩
 match vals,hv with
 |[y],⟨⟨b,hb,hy⟩,_⟩=>
  subst hy
  obtain ⟨y0,y1,h1,d0,d1⟩:=blkE2 (hH id b _ hb (lk_cons_eq _ _ _))
  obtain ⟨b',hb',d0⟩:=d0
  rw[hb] at hb';cases hb'
  subst d0
  refine (Oct.ck_used b y1 x h1).mono ?_
  rintro e x' ⟨rfl,rfl⟩
  refine ⟨_,β,rfl,done_wr hinj hlt ⟨[],rfl,trivial⟩ rfl rfl rfl (Nat.le_refl _) (fun k hk hne=>rfl) (fun i c k hi hk=>?_)⟩
  obtain ⟨rfl,rfl⟩:=lk_one hk
  rw[hb] at hi;cases hi
  exact mkE2 h1 ⟨b,hb,rfl⟩ d1
set_option maxRecDepth 100000 in
set_option maxHeartbeats 1000000 in
theorem bstr2 (b g cap:Nat) (p:Value) (l:List UInt8) (cur:Array Value) (fr:Nat×Nat) (w:World) (h1:w.heap[b]? = some (.cells #[p,.slice (some ⟨g,0,none⟩) l.length cap] 101 (0,0))) (r3:w.heap[g]? = some (.cells cur 5 fr))
  (h0:l≠[]) (hle:l.length≤cur.size) (hM:l.length≤1000000000) (hcap:l.length≤cap) (r7:cur.toList.take l.length=Oct.bvals l) :
  Calls Tryz.prog 54 #[.pointer (some ⟨b,0,none⟩)] w fun e w'=>e=.returned (.string ⟨l.toArray⟩)∧w'=w.drew.freeze ⟨g,0,none⟩ l.length:=by
 have hl:0<l.length:=by cases l with|nil=>exact absurd rfl h0|cons=>simp
 have c1:w.drew.cell? ⟨b,1,none⟩=some (.slice (some ⟨g,0,none⟩) l.length cap):=by
  have:w.drew.heap[b]? = some (.cells #[p,.slice (some ⟨g,0,none⟩) l.length cap] 101 (0,0)):=h1
  rw[Lib.cell_of_heap this];rfl
 have hSD:(Builtin.unsafeSliceData_ #[57] 171 #[.slice (some ⟨g,0,none⟩) l.length cap]).run Tryz.prog w.drew=.ok (.pointer (some ⟨g,0,none⟩)) w.drew:=
  Lib.run_unsafeSliceData_row _ _ _ _ _ _ (by omega)
 have hUS:(Builtin.unsafeString_ #[171,3] 9 #[.pointer (some ⟨g,0,none⟩),.int .i64 l.length]).run Tryz.prog w.drew=.ok (.string ⟨l.toArray⟩) (w.drew.freeze ⟨g,0,none⟩ l.length):=by
  refine Lib.run_unsafeString_row w.drew 171 3 9 5 Tryz.underlying171 Oct.cellsU8 g cur.size (by have hg':w.drew.heap[g]? = some (.cells cur 5 fr):=r3;simp[World.shape?,hg']) l h0 hle (by omega) ?_
  intro j x hx
  have hj:j<l.length:=(List.getElem?_eq_some_iff.1 hx).1
  have hg':w.drew.heap[g]? = some (.cells cur 5 fr):=r3
  have e:(⟨g,0,none⟩:Addr).add j=⟨g,j,none⟩:=by unfold Addr.add;split<;>simp_all
  rw[e,Lib.cell_of_heap hg']
  have h3:(cur.toList.take l.length)[j]? = some (.int .u8 x.toNat):=by rw[r7];simp[Oct.bvals,hx]
  rw[List.getElem?_take,if_pos hj,Array.getElem?_toList] at h3
  exact h3
 clear h1 r3 r7
 go_enter Tryz.func54,Tryz.ntmps54
 go_wp2
 go_region
 all_goals (go_wp2;go_ret;exact ⟨rfl,rfl⟩)
theorem C54 (id bf n m:Nat) (l0:Leaf) (cs:List Leaf) (hm:0<m) (hc:cs.length=m) (ha:AllB cs) (hM:m≤1000000000) (hne:id≠bf) :
  CallOK Tryz.prog 54 [.c (.l (.p id 0))] [(id,⟨[l0,.o bf m],.e 101⟩),(bf,⟨cs,.r 5 1 bf⟩)] n (.c (.l (.v (.string (strL cs))))) [(bf,⟨[],.x⟩)] 0:=by
 refine ⟨enters54,fun β x vals hv hinj hlt hnew hH _=>?_⟩
 match vals,hv with
 |[y],⟨⟨b,hb,hy⟩,_⟩=>
  subst hy
  obtain ⟨y0,y1,h1,d0,d1⟩:=blkE2 (hH id b _ hb (lk_cons_eq _ _ _))
  rcases d1 with ⟨h0,_⟩|⟨g,cap,hg,hcc,hcap,hy1⟩
  ·omega
  subst hy1
  rcases hH bf g _ hg (by rw[lk_cons_ne _ _ hne,lk_cons_eq]) with (⟨hx,_⟩|⟨hx,_⟩)|⟨ys,zs,r3,hd,v,hv,hroom⟩
  ·cases hx
  ·cases hx
  have hys:=allB_spec ha hd
  have hyl:ys.length=m:=by rw[←hd.length,hc]
  have hl:(cs.map lfB).length=m:=by rw[List.length_map,hc]
  have key:=bstr2 b g cap y0 (cs.map lfB) (ys++zs).toArray (0,0) x (by rw[hl];exact h1) (by simpa [BT.ty,BT.fr] using r3) (by intro e;rw[e] at hl;simp at hl;omega) (by simp;omega) (by omega) (by omega) (by
   rw[hl]
   show (ys++zs).take m=_
   rw[List.take_append_of_le_length (by omega),List.take_of_length_le (by omega),hys]
   rfl)
  refine key.mono ?_
  rintro e x' ⟨rfl,rfl⟩
  have hbg:b≠g:=fun e=>hne (hinj _ _ _ hb (e▸hg))
  have hsz:(x.drew.freeze ⟨g,0,none⟩ (cs.map lfB).length).heap.size=x.heap.size:=by
   unfold World.freeze
   split
   ·rfl
   ·simp
  have hio:∀w:World,∀k,(w.freeze ⟨g,0,none⟩ k).os=w.os∧(w.freeze ⟨g,0,none⟩ k).tape=w.tape∧(w.freeze ⟨g,0,none⟩ k).output=w.output:=by
   intro w k;unfold World.freeze;split<;>exact ⟨rfl,rfl,rfl⟩
  obtain ⟨i1,i2,i3⟩:=hio x.drew (cs.map lfB).length
  refine ⟨_,β,rfl,done_wr hinj hlt ⟨rfl,rfl⟩ i1 i2 i3 (by rw[hsz];exact Nat.le_refl _) (fun k hk hn=>?_) (fun i c k hi hk=>?_)⟩
  ·rw[Oct.freeze_other (fun e=>?_)]
   ·rfl
   ·subst e
    have:=hn bf hg
    rw[lk_cons_eq] at this;cases this
  ·obtain ⟨rfl,rfl⟩:=lk_one hk
   exact .inl (.inl ⟨rfl,rfl⟩)
end Ab
end Go.Proofs.YtpdckpifhniioaaGreat
end
section
set_option linter.unusedVariables false
set_option linter.unusedSimpArgs false
namespace Go.Proofs.YtpdckpifhniioaaGreat
open Go.RowKit
namespace Ab
def W110 (S:St) (i:Nat):Blk:=match S.blk i with|some ⟨[_,x],t⟩=>⟨[.p i 0,x],t⟩|_=>⟨[],.t 0⟩
theorem enters47:Enters Tryz.prog 47:=fun args w=>by go_simp
def cz_C47a:Cz:={
 ct:=(fun f=>match f with
 |110=>some fun _ _S ar=>match ar with | [.c (.l (.p i 0))]=>some {v:=.tup [],rd:=[i],wr:=[(i,W110 _S i)],nw:=0}|_=>none
 |_=>none)
 eq:=(fun t=>match t with
 |_=>none)
 raw:=[],sym:=[],nf:=[],ap:=true,off:=[],on:=[],lp:=fun _=>none,un:=0}
set_option maxRecDepth 100000 in
set_option maxHeartbeats 400000 in
theorem C47a (s:ByteArray) (hs:s.size≤1000000000) (h0:0<s.size):CallOK Tryz.prog 47 [.c (.l (.p 0 0)),.c (.l (.v (.string s)))] [(0,⟨[.v (.pointer none),.v (.slice none 0 0)],.e 101⟩)] 1 (.tup [.l (li s.size),.l (.v .nilIface)]) [(0,⟨[.p 0 0,.o 1 s.size],.e 101⟩),(1,⟨sbytes s,.r 5 1 1⟩)] 1:=by
 refine call_ok (cx:=cz_C47a) (nm:=[1]) rfl Tryz.func47 (body:=Tryz.f47.body.getD .skip) rfl enters47 (by kernel_rfl) ?_
 apply of_eq (q:=CallOKd Tryz.prog 110 [] [SV.c (Cp.l (Leaf.p 0 0))] [(0,Blk.mk [Leaf.v (Value.pointer none),Leaf.v (Value.slice none 0 0)] (BT.e 101))] 1 (SV.tup []) [(0,Blk.mk [Leaf.p 0 0,Leaf.v (Value.slice none 0 0)] (BT.e 101))] 0∧0<s.size∧ApB Tryz.prog 5 s.size∧Le (SV.tup [Cp.l (li (Nat.cast s.size:Int)),Cp.l (Leaf.v Value.nilIface)]) (SV.tup [Cp.l (li (Nat.cast s.size:Int)),Cp.l (Leaf.v Value.nilIface)])∧BkR (rnId 1 0 [1]) (Blk.mk [Leaf.p 0 0,Leaf.o 1 s.size] (BT.e 101)) (Blk.mk [Leaf.p 0 0,Leaf.o 1 s.size] (BT.e 101))∧BkR (rnId 1 0 [1]) (Blk.mk (sbytes s) (BT.r 5 1 1)) (Blk.mk (sbytes s) (BT.r 5 1 1))∧True) (by kernel_rfl)
 repeat' (first|exact trivial|with_reducible apply And.intro|(with_reducible apply HB.mk)|with_reducible intro _)
 all_goals first
  |(assumption)
  |(with_reducible exact Le.refl _)
  |(((with_reducible first|exact C110u _ _ _|exact C110f _ _ _)))
  |(exact apB (bytes:=1) (by kernel_rfl) (by omega))
  |(exact BkR.plain rfl (plain_sbytes s) (by kernel_rfl))
  |(exact BkR.of (by kernel_rfl))
def cz_C47t:Cz:={
 ct:=(fun f=>match f with
 |110=>some fun _ _S ar=>match ar with | [.c (.l (.p i 0))]=>some {v:=.tup [],rd:=[i],wr:=[(i,W110 _S i)],nw:=0}|_=>none
 |_=>none)
 eq:=(fun t=>match t with
 |_=>none)
 raw:=[],sym:=[14],nf:=[],ap:=true,off:=[],on:=[],lp:=fun _=>none,un:=0}
set_option maxRecDepth 100000 in
set_option maxHeartbeats 400000 in
theorem C47t (s:ByteArray) (m:Nat) (cs:List Leaf) (hs:s.size≤1000000000) (hm:m≤1000000000) (hc:cs.length=m) (hp:Plain cs):CallOKd Tryz.prog 47 [(1,m+s.size,true)] [.c (.l (.p 0 0)),.c (.l (.v (.string s)))] [(0,⟨[.p 0 0,.o 1 m],.e 101⟩),(1,⟨cs,.r 5 1 1⟩)] 2 (.tup [.l (li s.size),.l (.v .nilIface)]) [(0,⟨[.p 0 0,.o 1 (m+s.size)],.e 101⟩),(1,⟨cs++sbytes s,.r 5 1 1⟩)] 0:=by
 refine call_okW (D:=[(1,m+s.size,true)]) (nm:=[]) Tryz.func47 (body:=Tryz.f47.body.getD .skip) rfl enters47 (by unfold inck;simp only[List.all_cons,List.all_nil,blkLt_plain hp (show (BT.rn (rnId 2 0 []) (.r 5 1 1)).isSome=true from rfl),Bool.and_true,Bool.true_and];kernel_rfl) (by kernel_rfl) (evD_sound (cx:=cz_C47t) (rb:=fun r=>match r with|2=>some [true]|_=>none) rfl _ _ _ ?_)
 apply of_eq (q:=CallOKd Tryz.prog 110 [] [SV.c (Cp.l (Leaf.p 0 0))] [(0,Blk.mk [Leaf.p 0 0,Leaf.o 1 m] (BT.e 101))] 2 (SV.tup []) [(0,Blk.mk [Leaf.p 0 0,Leaf.o 1 m] (BT.e 101))] 0∧[(1,m+s.size,true)]=[(1,m+s.size,true)]∧(Blk.mk cs (BT.r 5 1 1)).cs.length=m*1∧Le (SV.tup [Cp.l (li (Nat.cast s.size:Int)),Cp.l (Leaf.v Value.nilIface)]) (SV.tup [Cp.l (li (Nat.cast s.size:Int)),Cp.l (Leaf.v Value.nilIface)])∧BkR (rnId 2 0 []) (Blk.mk [Leaf.p 0 0,Leaf.o 1 (m+s.size)] (BT.e 101)) (Blk.mk [Leaf.p 0 0,Leaf.o 1 (m+s.size)] (BT.e 101))∧BkR (rnId 2 0 []) (Blk.mk ((Blk.mk cs (BT.r 5 1 1)).cs++sbytes s) (BT.r 5 1 1)) (Blk.mk (cs++sbytes s) (BT.r 5 1 1))∧True) (by kernel_rfl)
 repeat' (first|exact trivial|with_reducible apply And.intro|(with_reducible apply HB.mk)|with_reducible intro _)
 all_goals first
  |(with_reducible exact Le.refl _)
  |(((with_reducible first|exact C110u _ _ _|exact C110f _ _ _)))
  |(exact BkR.plain rfl (hp.append (plain_sbytes s)) (by kernel_rfl))
  |(exact BkR.of (by kernel_rfl))
  |(simp only[*,Bool.and_self,Bool.not_false,Bool.not_true];done)
  |(simp_all [wants];done)
def cz_C47f:Cz:={
 ct:=(fun f=>match f with
 |110=>some fun _ _S ar=>match ar with | [.c (.l (.p i 0))]=>some {v:=.tup [],rd:=[i],wr:=[(i,W110 _S i)],nw:=0}|_=>none
 |_=>none)
 eq:=(fun t=>match t with
 |_=>none)
 raw:=[],sym:=[14],nf:=[],ap:=true,off:=[],on:=[],lp:=fun _=>none,un:=0}
set_option maxRecDepth 100000 in
set_option maxHeartbeats 400000 in
theorem C47f (s:ByteArray) (m:Nat) (cs:List Leaf) (hs:s.size≤1000000000) (hm:m≤1000000000) (hc:cs.length=m) (hp:Plain cs):CallOKd Tryz.prog 47 [(1,m+s.size,false)] [.c (.l (.p 0 0)),.c (.l (.v (.string s)))] [(0,⟨[.p 0 0,.o 1 m],.e 101⟩),(1,⟨cs,.r 5 1 1⟩)] 2 (.tup [.l (li s.size),.l (.v .nilIface)]) [(0,⟨[.p 0 0,.o 2 (m+s.size)],.e 101⟩),(2,⟨cs++sbytes s,.r 5 1 2⟩)] 1:=by
 refine call_okW (D:=[(1,m+s.size,false)]) (nm:=[2]) Tryz.func47 (body:=Tryz.f47.body.getD .skip) rfl enters47 (by unfold inck;simp only[List.all_cons,List.all_nil,blkLt_plain hp (show (BT.rn (rnId 2 0 []) (.r 5 1 1)).isSome=true from rfl),Bool.and_true,Bool.true_and];kernel_rfl) (by kernel_rfl) (evD_sound (cx:=cz_C47f) (rb:=fun r=>match r with|2=>some [false]|_=>none) rfl _ _ _ ?_)
 apply of_eq (q:=CallOKd Tryz.prog 110 [] [SV.c (Cp.l (Leaf.p 0 0))] [(0,Blk.mk [Leaf.p 0 0,Leaf.o 1 m] (BT.e 101))] 2 (SV.tup []) [(0,Blk.mk [Leaf.p 0 0,Leaf.o 1 m] (BT.e 101))] 0∧[(1,m+s.size,false)]=[(1,m+s.size,false)]∧[(1,m+s.size,false)]=[(1,m+s.size,false)]∧ApB Tryz.prog 5 (m+s.size)∧(Blk.mk cs (BT.r 5 1 1)).cs.length=m*1∧Le (SV.tup [Cp.l (li (Nat.cast s.size:Int)),Cp.l (Leaf.v Value.nilIface)]) (SV.tup [Cp.l (li (Nat.cast s.size:Int)),Cp.l (Leaf.v Value.nilIface)])∧BkR (rnId 2 0 [2]) (Blk.mk [Leaf.p 0 0,Leaf.o 2 (m+s.size)] (BT.e 101)) (Blk.mk [Leaf.p 0 0,Leaf.o 2 (m+s.size)] (BT.e 101))∧BkR (rnId 2 0 [2]) (Blk.mk ((Blk.mk cs (BT.r 5 1 1)).cs++sbytes s) (BT.r 5 1 2)) (Blk.mk (cs++sbytes s) (BT.r 5 1 2))∧True) (by kernel_rfl)
 repeat' (first|exact trivial|with_reducible apply And.intro|(with_reducible apply HB.mk)|with_reducible intro _)
 all_goals first
  |(with_reducible exact Le.refl _)
  |(((with_reducible first|exact C110u _ _ _|exact C110f _ _ _)))
  |(exact apB (bytes:=1) (by kernel_rfl) (by omega))
  |(exact BkR.plain rfl (hp.append (plain_sbytes s)) (by kernel_rfl))
  |(exact BkR.of (by kernel_rfl))
  |(simp only[*,Bool.and_self,Bool.not_false,Bool.not_true];done)
  |(simp_all [wants];done)
end Ab
end Go.Proofs.YtpdckpifhniioaaGreat
end
