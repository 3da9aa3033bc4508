/- Part 24 of what CodecPacks rests on. -/
import Derived.WalkKit
import Derived.ProofKit
import Derived.OpenShut
import Derived.SliceStrings
import Derived.SizedLaws
import Derived.Test.YtpdckpifhniioaaGreatVb
import Derived.Test.YtpdckpifhniioaaGreatVw
section
set_option linter.unusedVariables false
set_option linter.unusedSimpArgs false
namespace Go.Proofs.YtpdckpifhniioaaGreat
open Go.RowKit
namespace Ab
section
variable {P:Program} {ops:List Oper} {Q:Exit→Act→World→Prop}
theorem seq_opsT {c0:Nat→Option Nat} {n0:Nat} (rest:List Nat):∀(r:List Oper) (i:Nat) (S S':St) (l:List Tr) (a:Act) (x:World) (β:Bt),(∀j,j<r.length→ops[i+j]? = r[j]?)→TraceR P ops c0 n0 r S l S'→n0≤S.n→(∀id v,id<n0→β.c id=some v→c0 id=some v)→AllT l→Rep β S a x→
  (∀β' a' x',Nx S.q S'.W β x β' x'→Rep β' S' a' x'→wpOps P ops.toArray Q rest a' x')→wpOps P ops.toArray Q (List.range' i r.length++rest) a x
 |[],i,S,S',l,a,x,β,hi,h,hn0,hc0,ho,hR,hk=>by
  cases h
  exact hk β a x Nx.refl hR
 |o::r,i,S,S',l,a,x,β,hi,h,hn0,hc0,ho,hR,hk=>by
  cases h with
  |cons he hd hn hc hr=>
   rename_i e l'
   obtain ⟨m1,m2,m3,m4⟩:=trace_mono hr
   have hoi:ops.toArray[i]? = some o:=by have:=hi 0 (by simp);simpa using this
   rw[List.length_cons,List.range'_succ,List.cons_append]
   have hnext:∀y β' x',Done S.n e.nw β x e.wr e.v y β' x'→wpOps P ops.toArray Q (List.range' (i+1) r.length++rest) (a.put o.dst y) x':=by
    intro y β' x' hD
    obtain ⟨hR',hN⟩:=upd_rep hR hD hd hn
    refine seq_opsT rest r (i+1) _ S' l' _ x' β' (fun j hj=>by have:=hi (j+1) (by simpa using hj);rw[show i+1+j=i+(j+1) by omega];simpa using this) hr (Nat.le_trans hn0 (Nat.le_add_right _ _)) (fun id v hid hv=>?_) ho.2 hR' fun β'' a'' x'' hN' hR''=>?_
    ·rcases hD.newc id v hv with h1|⟨h1,_⟩
     ·exact hc0 id v hid h1
     ·omega
    ·exact hk β'' a'' x'' (hN.trans hN' fun i hi _=>m3 i hi) hR''
   have hs:=he β a x Q ho.1 ⟨hR.inj,fun i b h=>(hR.lt i b h).1⟩ (fun t _=>hR.sl t) (fun id _ b k hb hk=>hR.blk id b k hb hk) (fun id h1 _=>by
    constructor
    ·cases hq:β id with
     |none=>rfl
     |some b=>have:=(hR.lt id b hq).2;omega
    ·cases hq:β.c id with
     |none=>rfl
     |some b=>have:=hR.ltc id b hq;omega) (dc_ok (hc ho.1) hc0)
   unfold wpOps
   rw[hoi]
   simp only
   split
   ·rename_i hw
    rw[if_pos hw] at hs
    refine .inl (Oper.wp_mono ?_ hs)
    rintro a' x' ⟨y,β',rfl,hD⟩
    exact hnext y β' x' hD
   ·rename_i hw
    rw[if_neg hw] at hs
    exact hnext undef β x hs
end
def regT (id:Nat) (P:Program) (cx:Cy) (ops r:List Oper) (S:St) (K:St→Prop):Prop:=match trace P cx ops S.n r [true,true,true,true] S with
 |some (l,_)=>regs (fun bs=>match trace P cx ops S.n r bs S with|some (l,S')=>obsT l (K S')|none=>Bad id (1000+badAt P cx ops r S 0)) (nAlt l) []
 |none=>Bad id (2000+badAt P cx ops r S 0)
def reg2 (id:Nat) (P:Program) (cx:Cy) (ops:List Oper) (k:Nat) (S:St) (K:St→Prop):Prop:=regT id P cx ops (ops.take k) S fun S'=>regT id P cx ops (ops.drop k) S' K
theorem regT_sound {P:Program} {id:Nat} {cx:Cy} {ops:List Oper} {Q:Exit→Act→World→Prop} {rest:List Nat} {r:List Oper} {i:Nat} {S:St} {K:St→Prop} (h:regT id P cx ops r S K) (hi:∀j,j<r.length→ops[i+j]? = r[j]?) (β:Bt) (a:Act) (x:World) (hR:Rep β S a x)
  (hk:∀S' β' a' x',K S'→S'.q=S.q→(∀i∈S.W,i∈S'.W)→Nx S.q S'.W β x β' x'→Rep β' S' a' x'→wpOps P ops.toArray Q rest a' x'):wpOps P ops.toArray Q (List.range' i r.length++rest) a x:=by
 unfold regT at h
 split at h
 ·rename_i l₀ S₀ ht₀
  have hall:=regs_all _ _ h
  obtain ⟨l,S',ht,hf⟩:=trace_pick β.c r (nAlt l₀) S (fun q=>match q with|some (l,S')=>obsT l (K S')|none=>Bad id (1000+badAt P cx ops r S 0)) (fun q=>nomatch q) (fun bs hb=>by
   have:=hall bs.reverse (by simpa using hb)
   simpa using this)
  obtain ⟨_,_,h3,h4⟩:=trace_mono ht
  obtain ⟨ho,hK⟩:=obsT_iff.1 hf
  exact seq_opsT rest r i S S' l a x β hi ht (Nat.le_refl _) (fun _ _ _ h=>h) ho hR fun β' a' x' hN hR'=>hk S' β' a' x' hK h4.symm h3 hN hR'
 ·exact nomatch h
theorem reg2_sound {P:Program} {id:Nat} {ops:Array Oper} {S:St} {K:Exit→St→Prop} {cy:Cy} {k:Nat} (h:reg2 id P cy ops.toList k S (K .normal)):WP P (.region id ops false) S K:=by
 intro β a x hR
 refine wp_region ?_
 have e:List.range ops.size=List.range' 0 (ops.toList.take k).length++(List.range' (ops.toList.take k).length (ops.toList.drop k).length++[]):=by
  have hl:(ops.toList.take k).length+(ops.toList.drop k).length=ops.size:=by rw[←List.length_append,List.take_append_drop,Array.length_toList]
  have h:=List.range'_append_1 (s:=0) (m:=(ops.toList.take k).length) (n:=(ops.toList.drop k).length)
  rw[Nat.zero_add,hl] at h
  rw[List.append_nil,List.range_eq_range',h]
 rw[e,show ops=ops.toList.toArray by simp]
 simp only[List.toList_toArray]
 refine regT_sound h (fun j hj=>?_) β a x hR fun S1 β1 a1 x1 hK1 hq1 hW1 hN1 hR1=>?_
 ·rw[Nat.zero_add,List.getElem?_take_of_lt (by rw[List.length_take] at hj;omega)]
 ·refine regT_sound hK1 (fun j hj=>?_) β1 a1 x1 hR1 fun S2 β2 a2 x2 hK2 hq2 hW2 hN2 hR2=>?_
  ·rw[List.getElem?_drop,List.length_take]
   rw[List.length_drop] at hj
   rw[show min k ops.toList.length=k by omega]
  ·exact ⟨S2,β2,hK2,hq2.trans hq1,fun i hi _=>hW2 i (hW1 i hi),hN1.trans (hq1▸hN2) (fun i hi _=>hW2 i hi),hR2⟩
def ev2 (P:Program) (cx:Cz) (sp:Nat→Nat):Code→St→(Exit→St→Prop)→Prop
 |.region id ops draw,S,K=>match sp id with
  |0=>regA id P cx.toCy ops.toList draw S (K .normal)
  |k+1=>match draw with
   |false=>reg2 id P cx.toCy ops.toList (k+1) S (K .normal)
   |true=>regA id P cx.toCy ops.toList true S (K .normal)
 |.seq c d,S,K=>ev2 P cx sp c S fun e S'=>match e with | .normal=>ev2 P cx sp d S' K|e=>K e S'
 |.cond t c d,S,K=>match evo S t with
  |.c (.l (.v (.bool b)))=>HB b (ev2 P cx sp c S K) (ev2 P cx sp d S K)
  |_=>Bad 999 0
 |.ret,S,K=>K .ret S
 |.skip,S,K=>K .normal S
 |_,_,_=>False
theorem ev2_sound {P:Program} {cx:Cz} {sp:Nat→Nat} (hm:P.follows .mixedOrders=true):∀(c:Code) (S:St) (K:Exit→St→Prop),ev2 P cx sp c S K→WP P c S K
 |.skip,S,K,h=>ev_sound (cx:=cx) hm .skip S K h
 |.ret,S,K,h=>ev_sound (cx:=cx) hm .ret S K h
 |.region id ops draw,S,K,h=>by
  unfold ev2 at h
  cases hs:sp id with
  |zero=>rw[hs] at h;exact reg_sound hm h
  |succ k=>
   rw[hs] at h
   cases draw with
   |false=>exact reg2_sound h
   |true=>exact reg_sound hm h
 |.seq c d,S,K,h=>seq_sound ((ev2_sound hm c S _ h).mono fun e S' hk=>by
   cases e with
   |normal=>exact ev2_sound hm d S' K hk
   |exit i=>exact hk
   |goto i=>exact hk
   |ret=>exact hk
   |panic i=>exact hk
   |outgrown=>exact hk)
 |.cond t c d,S,K,h=>by
  intro β a x hR
  unfold ev2 at h
  split at h
  ·rename_i b hv
   have ht:=den_eval hR t
   rw[hv] at ht
   refine wp_cond ht.1 ?_
   cases b with
   |true=>exact ev2_sound hm c S K h β a x hR
   |false=>exact ev2_sound hm d S K h β a x hR
  ·exact nomatch h
end Ab
end Go.Proofs.YtpdckpifhniioaaGreat
end
section
set_option linter.unusedVariables false
set_option linter.unusedSimpArgs false
namespace Go.Proofs.YtpdckpifhniioaaGreat
open Go.RowKit
namespace Ab
attribute [local irreducible] CallOKd
attribute [local irreducible] tl rws mdL packB
theorem made_len4 (s:List Int):(mdL s (mdN s)).length≤1024:=Nat.le_trans (made_len s) (by decide)
def btT (d:Int):Nat→UInt8:=fun i=>if i=0 then ofI (IntKind.u8.wrap d) else 0
def bdL (s:List Int) (d:Int):List TA:=(mdL s (mdN s)).set (rst d (mdL s (mdN s)).length).toNat ⟨(at' (mdL s (mdN s)) (rst d (mdL s (mdN s)).length).toNat).X,(at' (mdL s (mdN s)) (rst d (mdL s (mdN s)).length).toNat).Y,btT d⟩
theorem rst_bd {x n:Int} (h0:0<n) (h1:n≤1000000000):0≤rst x n∧rst x n<n:=⟨(rest_bd h0 h1).1,(rest_bd h0 h1).2.1⟩
theorem fctP {s:List Int} (d:Int) (h:((((mdL s (mdN s)).length:Nat):Int)==0)=false):0<(mdL s (mdN s)).length∧0≤(rst d (mdL s (mdN s)).length)∧(rst d (mdL s (mdN s)).length)<(mdL s (mdN s)).length:=by
 have h0:0<(mdL s (mdN s)).length:=by
  rcases Nat.eq_zero_or_pos (mdL s (mdN s)).length with e|e
  ·rw[e] at h;cases h
  ·exact e
 have h4:=made_len4 s
 have hk:=rst_bd (x:=d) (n:=((mdL s (mdN s)).length:Nat)) (by omega) (by omega)
 exact ⟨h0,hk.1,hk.2⟩
theorem bt_cells (d:Int):(ub (ofI (IntKind.u8.wrap d))::List.replicate 255 (.v (.int .u8 0)):List Leaf)=tl (btT d):=by
 apply List.ext_getElem?
 intro i
 by_cases hi:i<256
 ·rw[tl_at _ hi]
  cases i with
  |zero=>rfl
  |succ i=>
   rw[List.getElem?_cons_succ,List.getElem?_replicate,if_pos (by omega)]
   rfl
 ·rw[tl_none _ (by omega),List.getElem?_eq_none (by rw[List.length_cons,List.length_replicate];omega)]
theorem bt_zero (d:Int):zeroT (btT d)=true:=by
 unfold zeroT
 rw[sameT_iff]
 intro i hi
 unfold clnT btT
 rw[if_neg (by omega)]
 rfl
theorem rws_put {l:List TA} {k:Nat} (hk:k<l.length) (u:Nat→UInt8):splice (rws l) (k*258+2) (tl u)=rws (l.set k ⟨(at' l k).X,(at' l k).Y,u⟩):=by
 induction l generalizing k with
 |nil=>exact absurd hk (Nat.not_lt_zero k)
 |cons a l ih=>
  have e1:∀(b:TA) (A:List TA),rws (b::A)=el b++rws A:=fun b A=>by unfold rws;rw[List.map_cons,List.flatten_cons]
  cases k with
  |zero=>
   rw[List.set_cons_zero,e1,e1]
   show splice (li a.X::li a.Y::(tl a.t++rws l)) (0+1+1) (tl u)=_
   rw[splice_cons,splice_cons,splice_append _ _ _ _ (by rw[tl_len,tl_len];exact Nat.le_refl _),splice_all (by rw[tl_len,tl_len])]
   rfl
  |succ k=>
   have h:=ih (k:=k) (by simpa using hk)
   rw[List.set_cons_succ,e1,e1]
   have key:∀(m:List Leaf) (p q:List Leaf) (i:Nat),splice (p++q) (p.length+i) m=p++splice q i m:=by
    intro m
    induction m with
    |nil=>intro p q i;rfl
    |cons x m ih2=>
     intro p q i
     rw[splice,splice,List.set_append_right _ _ (by omega),show p.length+i-p.length=i by omega,Nat.add_assoc,ih2]
   have e:=key (tl u) (el a) (rws l) (k*258+2)
   rw[el_len] at e
   rw[show (k+1)*258+2=258+(k*258+2) by omega,e,h]
   rfl
theorem bdL_rws {s:List Int} (d:Int) (h:((((mdL s (mdN s)).length:Nat):Int)==0)=false):splice (rws (mdL s (mdN s))) ((rst d (mdL s (mdN s)).length).toNat*258+2) (tl (btT d))=rws (bdL s d):=by
 have hf:=fctP d h
 exact rws_put (by omega) _
theorem bdL_len (s:List Int) (d:Int):(bdL s d).length=(mdL s (mdN s)).length:=by
 unfold bdL
 rw[List.length_set]
theorem bd_at {s:List Int} (d:Int) (h:((((mdL s (mdN s)).length:Nat):Int)==0)=false) {k:Nat} (hk:k<(mdL s (mdN s)).length):(at' (bdL s d) k).X=(at' (mdL s (mdN s)) k).X∧(at' (bdL s d) k).Y=(at' (mdL s (mdN s)) k).Y∧(k≠(rst d (mdL s (mdN s)).length).toNat→(at' (bdL s d) k).t=(at' (mdL s (mdN s)) k).t)∧(k=(rst d (mdL s (mdN s)).length).toNat→(at' (bdL s d) k).t=btT d):=by
 by_cases e:k=(rst d (mdL s (mdN s)).length).toNat
 ·have e2:at' (bdL s d) k=⟨(at' (mdL s (mdN s)) k).X,(at' (mdL s (mdN s)) k).Y,btT d⟩:=by
   subst e
   unfold bdL at'
   rw[List.getD_eq_getElem?_getD,List.getElem?_set_self hk];rfl
  rw[e2]
  exact ⟨rfl,rfl,fun q=>absurd e q,fun _=>rfl⟩
 ·have e2:at' (bdL s d) k=at' (mdL s (mdN s)) k:=by
   unfold bdL at'
   rw[List.getD_eq_getElem?_getD,List.getD_eq_getElem?_getD,List.getElem?_set_ne (fun q=>e q.symm)]
   rfl
  rw[e2]
  exact ⟨rfl,rfl,fun _=>rfl,fun q=>absurd q e⟩
theorem bd_bad {s:List Int} (d:Int) (h:((((mdL s (mdN s)).length:Nat):Int)==0)=false):Bad1 (bdL s d) (rst d (mdL s (mdN s)).length).toNat:=by
 have hf:=fctP d h
 have g:=made_good s
 have hk:(rst d (mdL s (mdN s)).length).toNat<(mdL s (mdN s)).length:=by omega
 refine ⟨by rw[bdL_len];exact g.len,by rw[bdL_len];exact hk,?_,fun k q=>?_,fun k q=>?_,fun k q=>?_⟩
 ·rw[(bd_at d h hk).2.2.2 rfl];exact bt_zero d
 ·rw[(bd_at d h (show k<_ by omega)).1,(bd_at d h (show k<_ by omega)).2.1];exact g.inn k (by omega)
 ·rw[(bd_at d h (show k<_ by omega)).2.2.1 (by omega)];exact g.cl k (by omega)
 ·rw[(bd_at d h (show k<_ by omega)).1,(bd_at d h (show k<_ by omega)).2.1,(bd_at d h (show k+1<_ by omega)).1,(bd_at d h (show k+1<_ by omega)).2.1]
  exact g.ord k (by omega)
theorem packbad_C {s:List Int} (d:Int) (h:((((mdL s (mdN s)).length:Nat):Int)==0)=false) (id n:Nat) (hi:id<n):CallOK Tryz.prog 12 [.c (.agg [.o id (0+(mdL s (mdN s)).length)])] [(id,⟨splice (rws (mdL s (mdN s))) ((rst d (mdL s (mdN s)).length).toNat*258+2) (tl (btT d)),.r 42 258 id⟩)] n (.tup [.l (.v (.string ⟨#[]⟩)),.l (li 1)]) [] 0:=by
 rw[bdL_rws d h,Nat.zero_add,←bdL_len s d];exact packbad_any _ _ (bd_bad d h) id n hi
theorem enters3:Enters Tryz.prog 3:=fun args w=>by go_simp
def cz_W3 (x:Leaf) (p:Nat) (s:List Int) (d:Int):Cz:={
 ct:=(fun f=>match f with
 |10=>some fun _ _S ar=>match ar with | []=>some {v:=bv true,rd:=[],wr:=[],nw:=0}|_=>none
 |11=>some fun _ _S ar=>match ar with | [.c (.l _)]=>some {v:=.c (.agg [.o _S.n (mdL s (mdN s)).length]),rd:=[0],wr:=[(_S.n,⟨rws (mdL s (mdN s)),.r 42 258 _S.n⟩)],nw:=1}|_=>none
 |12=>some fun _ap _S ar=>match _ap,ar with
  |_,[.c (.agg [.o 1 _])]=>some {v:=.tup [.l (.v (.string (packB (mdL s (mdN s))))),.l (li 0)],rd:=[1],wr:=[],nw:=0,dc:=[]}
  |_,[.c (.agg [.o i _])]=>some {v:=.tup [.l (.v (.string ⟨#[]⟩)),.l (li 1)],rd:=[i],wr:=[],nw:=0,dc:=[]}
  |_,_=>none
 |13=>some fun _ _S ar=>match ar with | [.c (.agg [.o i _])]=>some {v:=ag [.v (.string (packB (mdL s (mdN s)))),li 0],rd:=[i],wr:=[],nw:=0}|_=>none
 |14=>some fun _ _S ar=>match ar with | [.c (.l (.v (.int _ x))),.c (.l (.v (.int _ n)))]=>some {v:=iv .i64 (rst x n),rd:=[],wr:=[],nw:=0}|_=>none
 |_=>none)
 eq:=(fun t=>match t with
 |_=>none)
 raw:=[],sym:=[0,41,60],nf:=[(27,bv false),(45,iv .i64 ((mdL s (mdN s)).length:Nat)),(51,iv .i64 ((mdL s (mdN s)).length:Nat)),(57,.c (.l (ub (ofI (IntKind.u8.wrap d))))),(59,.c (.agg (tl (btT d))))],ap:=true,off:=[],on:=[],lp:=fun _=>none,un:=0,wh:=[26,32]}
set_option maxRecDepth 100000 in
set_option maxHeartbeats 400000 in
theorem W3 (x:Leaf) (p:Nat) (s:List Int) (d:Int) (hx:IntsAt x p s):CallOKd Tryz.prog 3 [] [.c (.l x),iv .i64 d] [(0,⟨qls p s,.q⟩)] 1 (bv true) [] 0:=by
 have hlen:=made_len4 s
 refine call_okW (D:=[]) (nm:=[]) Tryz.func3 (body:=Tryz.f3.body.getD .skip) rfl enters3 (by unfold inck;simp only[List.all_cons,List.all_nil,hx.lt,blkLt_fix (fix_qls p s) (show (BT.rn (rnId 1 0 []) (.q)).isSome=true from rfl),Bool.and_true,Bool.true_and];kernel_rfl) (by kernel_rfl) (fun β a x0 hR _ _=>ev2_sound (cx:=cz_W3 x p s d) (sp:=fun r=>match r with|7=>1|_=>0) rfl _ _ _ ?_ β a x0 hR)
 apply of_eq (q:=CallOKd Tryz.prog 10 [] [] [] 1 (bv true) [] 0∧CallOKd Tryz.prog 11 [] [SV.c (Cp.l x)] [(0,Blk.mk (qls p s) BT.q)] 1 (ag [Leaf.o 1 (mdL s (mdN s)).length]) [(1,Blk.mk (rws (mdL s (mdN s))) (BT.r 42 258 1))] 1∧1≤1∧0=0∧1=1∧CallOKd Tryz.prog 12 [] [ag [Leaf.o 1 (mdL s (mdN s)).length]] [(1,Blk.mk (rws (mdL s (mdN s))) (BT.r 42 258 1))] 3 (SV.tup [Cp.l (Leaf.v (Value.string (packB (mdL s (mdN s))))),Cp.l (li 0)]) [] 0∧CallOKd Tryz.prog 13 [] [ag [Leaf.o 1 (mdL s (mdN s)).length]] [(1,Blk.mk (rws (mdL s (mdN s))) (BT.r 42 258 1))] 3 (ag [Leaf.v (Value.string (packB (mdL s (mdN s)))),li 0]) [] 0∧2≤2∧0=0∧2=2∧Le (bv !(packB (mdL s (mdN s))).toList==(packB (mdL s (mdN s))).toList) (bv false)∧((!false)=true→(!false)=true∧True)∧((!false)=true→(!false)=true∧(!false)=true∧True)∧(false=false→(!false)=true)∧((!bif false then true else 0 != 0)=true→(!bif false then true else 0 != 0)=true∧True)∧((bif false then true else 0 != 0)=false→(!bif false then true else 0 != 0)=true)∧(0=0∧(mdL s (mdN s)).length*258=(rws (mdL s (mdN s))).length∧1≤1∧0=0∧1=1∧Le (iv IntKind.i64 (Nat.cast ((0+(mdL s (mdN s)).length)):Int)) (iv IntKind.i64 (Nat.cast ((mdL s (mdN s)).length):Int))∧HB ((Nat.cast ((mdL s (mdN s)).length):Int)==0) (Le (bv true) (bv true)∧True) (Le (iv IntKind.i64 (Nat.cast ((0+(mdL s (mdN s)).length)):Int)) (iv IntKind.i64 (Nat.cast ((mdL s (mdN s)).length):Int))∧CallOKd Tryz.prog 14 [] [iv IntKind.i64 d,iv IntKind.i64 (Nat.cast ((mdL s (mdN s)).length):Int)] [] 6 (iv IntKind.i64 (rst d (Nat.cast ((mdL s (mdN s)).length):Int))) [] 0∧Le (iv IntKind.u8 (IntKind.u8.wrap d)) (iv IntKind.u8 (Nat.cast ((ofI (IntKind.u8.wrap d)).toNat):Int))∧Le (ag [Leaf.v (Value.int IntKind.u8 (Nat.cast ((ofI (IntKind.u8.wrap d)).toNat):Int)),Leaf.v (Value.int IntKind.u8 0),Leaf.v (Value.int IntKind.u8 0),Leaf.v (Value.int IntKind.u8 0),Leaf.v (Value.int IntKind.u8 0),Leaf.v (Value.int IntKind.u8 0),Leaf.v (Value.int IntKind.u8 0),Leaf.v (Value.int IntKind.u8 0),Leaf.v (Value.int IntKind.u8 0),Leaf.v (Value.int IntKind.u8 0),Leaf.v (Value.int IntKind.u8 0),Leaf.v (Value.int IntKind.u8 0),Leaf.v (Value.int IntKind.u8 0),Leaf.v (Value.int IntKind.u8 0),Leaf.v (Value.int IntKind.u8 0),Leaf.v (Value.int IntKind.u8 0),Leaf.v (Value.int IntKind.u8 0),Leaf.v (Value.int IntKind.u8 0),Leaf.v (Value.int IntKind.u8 0),Leaf.v (Value.int IntKind.u8 0),Leaf.v (Value.int IntKind.u8 0),Leaf.v (Value.int IntKind.u8 0),Leaf.v (Value.int IntKind.u8 0),Leaf.v (Value.int IntKind.u8 0),Leaf.v (Value.int IntKind.u8 0),Leaf.v (Value.int IntKind.u8 0),Leaf.v (Value.int IntKind.u8 0),Leaf.v (Value.int IntKind.u8 0),Leaf.v (Value.int IntKind.u8 0),Leaf.v (Value.int IntKind.u8 0),Leaf.v (Value.int IntKind.u8 0),Leaf.v (Value.int IntKind.u8 0),Leaf.v (Value.int IntKind.u8 0),Leaf.v (Value.int IntKind.u8 0),Leaf.v (Value.int IntKind.u8 0),Leaf.v (Value.int IntKind.u8 0),Leaf.v (Value.int IntKind.u8 0),Leaf.v (Value.int IntKind.u8 0),Leaf.v (Value.int IntKind.u8 0),Leaf.v (Value.int IntKind.u8 0),Leaf.v (Value.int IntKind.u8 0),Leaf.v (Value.int IntKind.u8 0),Leaf.v (Value.int IntKind.u8 0),Leaf.v (Value.int IntKind.u8 0),Leaf.v (Value.int IntKind.u8 0),Leaf.v (Value.int IntKind.u8 0),Leaf.v (Value.int IntKind.u8 0),Leaf.v (Value.int IntKind.u8 0),Leaf.v (Value.int IntKind.u8 0),Leaf.v (Value.int IntKind.u8 0),Leaf.v (Value.int IntKind.u8 0),Leaf.v (Value.int IntKind.u8 0),Leaf.v (Value.int IntKind.u8 0),Leaf.v (Value.int IntKind.u8 0),Leaf.v (Value.int IntKind.u8 0),Leaf.v (Value.int IntKind.u8 0),Leaf.v (Value.int IntKind.u8 0),Leaf.v (Value.int IntKind.u8 0),Leaf.v (Value.int IntKind.u8 0),Leaf.v (Value.int IntKind.u8 0),Leaf.v (Value.int IntKind.u8 0),Leaf.v (Value.int IntKind.u8 0),Leaf.v (Value.int IntKind.u8 0),Leaf.v (Value.int IntKind.u8 0),Leaf.v (Value.int IntKind.u8 0),Leaf.v (Value.int IntKind.u8 0),Leaf.v (Value.int IntKind.u8 0),Leaf.v (Value.int IntKind.u8 0),Leaf.v (Value.int IntKind.u8 0),Leaf.v (Value.int IntKind.u8 0),Leaf.v (Value.int IntKind.u8 0),Leaf.v (Value.int IntKind.u8 0),Leaf.v (Value.int IntKind.u8 0),Leaf.v (Value.int IntKind.u8 0),Leaf.v (Value.int IntKind.u8 0),Leaf.v (Value.int IntKind.u8 0),Leaf.v (Value.int IntKind.u8 0),Leaf.v (Value.int IntKind.u8 0),Leaf.v (Value.int IntKind.u8 0),Leaf.v (Value.int IntKind.u8 0),Leaf.v (Value.int IntKind.u8 0),Leaf.v (Value.int IntKind.u8 0),Leaf.v (Value.int IntKind.u8 0),Leaf.v (Value.int IntKind.u8 0),Leaf.v (Value.int IntKind.u8 0),Leaf.v (Value.int IntKind.u8 0),Leaf.v (Value.int IntKind.u8 0),Leaf.v (Value.int IntKind.u8 0),Leaf.v (Value.int IntKind.u8 0),Leaf.v (Value.int IntKind.u8 0),Leaf.v (Value.int IntKind.u8 0),Leaf.v (Value.int IntKind.u8 0),Leaf.v (Value.int IntKind.u8 0),Leaf.v (Value.int IntKind.u8 0),Leaf.v (Value.int IntKind.u8 0),Leaf.v (Value.int IntKind.u8 0),Leaf.v (Value.int IntKind.u8 0),Leaf.v (Value.int IntKind.u8 0),Leaf.v (Value.int IntKind.u8 0),Leaf.v (Value.int IntKind.u8 0),Leaf.v (Value.int IntKind.u8 0),Leaf.v (Value.int IntKind.u8 0),Leaf.v (Value.int IntKind.u8 0),Leaf.v (Value.int IntKind.u8 0),Leaf.v (Value.int IntKind.u8 0),Leaf.v (Value.int IntKind.u8 0),Leaf.v (Value.int IntKind.u8 0),Leaf.v (Value.int IntKind.u8 0),Leaf.v (Value.int IntKind.u8 0),Leaf.v (Value.int IntKind.u8 0),Leaf.v (Value.int IntKind.u8 0),Leaf.v (Value.int IntKind.u8 0),Leaf.v (Value.int IntKind.u8 0),Leaf.v (Value.int IntKind.u8 0),Leaf.v (Value.int IntKind.u8 0),Leaf.v (Value.int IntKind.u8 0),Leaf.v (Value.int IntKind.u8 0),Leaf.v (Value.int IntKind.u8 0),Leaf.v (Value.int IntKind.u8 0),Leaf.v (Value.int IntKind.u8 0),Leaf.v (Value.int IntKind.u8 0),Leaf.v (Value.int IntKind.u8 0),Leaf.v (Value.int IntKind.u8 0),Leaf.v (Value.int IntKind.u8 0),Leaf.v (Value.int IntKind.u8 0),Leaf.v (Value.int IntKind.u8 0),Leaf.v (Value.int IntKind.u8 0),Leaf.v (Value.int IntKind.u8 0),Leaf.v (Value.int IntKind.u8 0),Leaf.v (Value.int IntKind.u8 0),Leaf.v (Value.int IntKind.u8 0),Leaf.v (Value.int IntKind.u8 0),Leaf.v (Value.int IntKind.u8 0),Leaf.v (Value.int IntKind.u8 0),Leaf.v (Value.int IntKind.u8 0),Leaf.v (Value.int IntKind.u8 0),Leaf.v (Value.int IntKind.u8 0),Leaf.v (Value.int IntKind.u8 0),Leaf.v (Value.int IntKind.u8 0),Leaf.v (Value.int IntKind.u8 0),Leaf.v (Value.int IntKind.u8 0),Leaf.v (Value.int IntKind.u8 0),Leaf.v (Value.int IntKind.u8 0),Leaf.v (Value.int IntKind.u8 0),Leaf.v (Value.int IntKind.u8 0),Leaf.v (Value.int IntKind.u8 0),Leaf.v (Value.int IntKind.u8 0),Leaf.v (Value.int IntKind.u8 0),Leaf.v (Value.int IntKind.u8 0),Leaf.v (Value.int IntKind.u8 0),Leaf.v (Value.int IntKind.u8 0),Leaf.v (Value.int IntKind.u8 0),Leaf.v (Value.int IntKind.u8 0),Leaf.v (Value.int IntKind.u8 0),Leaf.v (Value.int IntKind.u8 0),Leaf.v (Value.int IntKind.u8 0),Leaf.v (Value.int IntKind.u8 0),Leaf.v (Value.int IntKind.u8 0),Leaf.v (Value.int IntKind.u8 0),Leaf.v (Value.int IntKind.u8 0),Leaf.v (Value.int IntKind.u8 0),Leaf.v (Value.int IntKind.u8 0),Leaf.v (Value.int IntKind.u8 0),Leaf.v (Value.int IntKind.u8 0),Leaf.v (Value.int IntKind.u8 0),Leaf.v (Value.int IntKind.u8 0),Leaf.v (Value.int IntKind.u8 0),Leaf.v (Value.int IntKind.u8 0),Leaf.v (Value.int IntKind.u8 0),Leaf.v (Value.int IntKind.u8 0),Leaf.v (Value.int IntKind.u8 0),Leaf.v (Value.int IntKind.u8 0),Leaf.v (Value.int IntKind.u8 0),Leaf.v (Value.int IntKind.u8 0),Leaf.v (Value.int IntKind.u8 0),Leaf.v (Value.int IntKind.u8 0),Leaf.v (Value.int IntKind.u8 0),Leaf.v (Value.int IntKind.u8 0),Leaf.v (Value.int IntKind.u8 0),Leaf.v (Value.int IntKind.u8 0),Leaf.v (Value.int IntKind.u8 0),Leaf.v (Value.int IntKind.u8 0),Leaf.v (Value.int IntKind.u8 0),Leaf.v (Value.int IntKind.u8 0),Leaf.v (Value.int IntKind.u8 0),Leaf.v (Value.int IntKind.u8 0),Leaf.v (Value.int IntKind.u8 0),Leaf.v (Value.int IntKind.u8 0),Leaf.v (Value.int IntKind.u8 0),Leaf.v (Value.int IntKind.u8 0),Leaf.v (Value.int IntKind.u8 0),Leaf.v (Value.int IntKind.u8 0),Leaf.v (Value.int IntKind.u8 0),Leaf.v (Value.int IntKind.u8 0),Leaf.v (Value.int IntKind.u8 0),Leaf.v (Value.int IntKind.u8 0),Leaf.v (Value.int IntKind.u8 0),Leaf.v (Value.int IntKind.u8 0),Leaf.v (Value.int IntKind.u8 0),Leaf.v (Value.int IntKind.u8 0),Leaf.v (Value.int IntKind.u8 0),Leaf.v (Value.int IntKind.u8 0),Leaf.v (Value.int IntKind.u8 0),Leaf.v (Value.int IntKind.u8 0),Leaf.v (Value.int IntKind.u8 0),Leaf.v (Value.int IntKind.u8 0),Leaf.v (Value.int IntKind.u8 0),Leaf.v (Value.int IntKind.u8 0),Leaf.v (Value.int IntKind.u8 0),Leaf.v (Value.int IntKind.u8 0),Leaf.v (Value.int IntKind.u8 0),Leaf.v (Value.int IntKind.u8 0),Leaf.v (Value.int IntKind.u8 0),Leaf.v (Value.int IntKind.u8 0),Leaf.v (Value.int IntKind.u8 0),Leaf.v (Value.int IntKind.u8 0),Leaf.v (Value.int IntKind.u8 0),Leaf.v (Value.int IntKind.u8 0),Leaf.v (Value.int IntKind.u8 0),Leaf.v (Value.int IntKind.u8 0),Leaf.v (Value.int IntKind.u8 0),Leaf.v (Value.int IntKind.u8 0),Leaf.v (Value.int IntKind.u8 0),Leaf.v (Value.int IntKind.u8 0),Leaf.v (Value.int IntKind.u8 0),Leaf.v (Value.int IntKind.u8 0),Leaf.v (Value.int IntKind.u8 0),Leaf.v (Value.int IntKind.u8 0),Leaf.v (Value.int IntKind.u8 0),Leaf.v (Value.int IntKind.u8 0),Leaf.v (Value.int IntKind.u8 0),Leaf.v (Value.int IntKind.u8 0),Leaf.v (Value.int IntKind.u8 0),Leaf.v (Value.int IntKind.u8 0),Leaf.v (Value.int IntKind.u8 0),Leaf.v (Value.int IntKind.u8 0),Leaf.v (Value.int IntKind.u8 0),Leaf.v (Value.int IntKind.u8 0),Leaf.v (Value.int IntKind.u8 0),Leaf.v (Value.int IntKind.u8 0),Leaf.v (Value.int IntKind.u8 0),Leaf.v (Value.int IntKind.u8 0),Leaf.v (Value.int IntKind.u8 0),Leaf.v (Value.int IntKind.u8 0),Leaf.v (Value.int IntKind.u8 0),Leaf.v (Value.int IntKind.u8 0),Leaf.v (Value.int IntKind.u8 0),Leaf.v (Value.int IntKind.u8 0),Leaf.v (Value.int IntKind.u8 0),Leaf.v (Value.int IntKind.u8 0),Leaf.v (Value.int IntKind.u8 0),Leaf.v (Value.int IntKind.u8 0),Leaf.v (Value.int IntKind.u8 0),Leaf.v (Value.int IntKind.u8 0),Leaf.v (Value.int IntKind.u8 0),Leaf.v (Value.int IntKind.u8 0)]) (ag (tl (btT d)))∧InR (rst d (Nat.cast ((mdL s (mdN s)).length):Int)) (0+(mdL s (mdN s)).length)∧(rst d (Nat.cast ((mdL s (mdN s)).length):Int)).toNat*258+2+256≤(rws (mdL s (mdN s))).length∧CallOKd Tryz.prog 12 [] [ag [Leaf.o 4 (0+(mdL s (mdN s)).length)]] [(4,Blk.mk (splice (rws (mdL s (mdN s))) ((rst d (Nat.cast ((mdL s (mdN s)).length):Int)).toNat*258+2) (tl (btT d))) (BT.r 42 258 4))] 6 (SV.tup [Cp.l (Leaf.v (Value.string (ByteArray.mk #[]))),Cp.l (li 1)]) [] 0∧(true=true→true=true∧True)∧(true=true→true=true)∧((bif true then (ByteArray.mk #[]).toList==(ByteArray.mk #[]).toList else false)=true→(bif true then (ByteArray.mk #[]).toList==(ByteArray.mk #[]).toList else false)=true∧True)∧((bif true then (ByteArray.mk #[]).toList==(ByteArray.mk #[]).toList else false)=true→(bif true then (ByteArray.mk #[]).toList==(ByteArray.mk #[]).toList else false)=true)∧Le (bv (bif bif true then (ByteArray.mk #[]).toList==(ByteArray.mk #[]).toList else false then 1==1 else false)) (bv true)∧True))∧[(4,0+(mdL s (mdN s)).length,false)]=[(4,0+(mdL s (mdN s)).length,false)]∧ApB Tryz.prog 42 (0+(mdL s (mdN s)).length)∧0=0∧(mdL s (mdN s)).length*258=(rws (mdL s (mdN s))).length∧1≤1∧0=0∧1=1∧Le (iv IntKind.i64 (Nat.cast ((0+(mdL s (mdN s)).length)):Int)) (iv IntKind.i64 (Nat.cast ((mdL s (mdN s)).length):Int))∧HB ((Nat.cast ((mdL s (mdN s)).length):Int)==0) (Le (bv true) (bv true)∧True) (Le (iv IntKind.i64 (Nat.cast ((0+(mdL s (mdN s)).length)):Int)) (iv IntKind.i64 (Nat.cast ((mdL s (mdN s)).length):Int))∧CallOKd Tryz.prog 14 [] [iv IntKind.i64 d,iv IntKind.i64 (Nat.cast ((mdL s (mdN s)).length):Int)] [] 7 (iv IntKind.i64 (rst d (Nat.cast ((mdL s (mdN s)).length):Int))) [] 0∧Le (iv IntKind.u8 (IntKind.u8.wrap d)) (iv IntKind.u8 (Nat.cast ((ofI (IntKind.u8.wrap d)).toNat):Int))∧Le (ag [Leaf.v (Value.int IntKind.u8 (Nat.cast ((ofI (IntKind.u8.wrap d)).toNat):Int)),Leaf.v (Value.int IntKind.u8 0),Leaf.v (Value.int IntKind.u8 0),Leaf.v (Value.int IntKind.u8 0),Leaf.v (Value.int IntKind.u8 0),Leaf.v (Value.int IntKind.u8 0),Leaf.v (Value.int IntKind.u8 0),Leaf.v (Value.int IntKind.u8 0),Leaf.v (Value.int IntKind.u8 0),Leaf.v (Value.int IntKind.u8 0),Leaf.v (Value.int IntKind.u8 0),Leaf.v (Value.int IntKind.u8 0),Leaf.v (Value.int IntKind.u8 0),Leaf.v (Value.int IntKind.u8 0),Leaf.v (Value.int IntKind.u8 0),Leaf.v (Value.int IntKind.u8 0),Leaf.v (Value.int IntKind.u8 0),Leaf.v (Value.int IntKind.u8 0),Leaf.v (Value.int IntKind.u8 0),Leaf.v (Value.int IntKind.u8 0),Leaf.v (Value.int IntKind.u8 0),Leaf.v (Value.int IntKind.u8 0),Leaf.v (Value.int IntKind.u8 0),Leaf.v (Value.int IntKind.u8 0),Leaf.v (Value.int IntKind.u8 0),Leaf.v (Value.int IntKind.u8 0),Leaf.v (Value.int IntKind.u8 0),Leaf.v (Value.int IntKind.u8 0),Leaf.v (Value.int IntKind.u8 0),Leaf.v (Value.int IntKind.u8 0),Leaf.v (Value.int IntKind.u8 0),Leaf.v (Value.int IntKind.u8 0),Leaf.v (Value.int IntKind.u8 0),Leaf.v (Value.int IntKind.u8 0),Leaf.v (Value.int IntKind.u8 0),Leaf.v (Value.int IntKind.u8 0),Leaf.v (Value.int IntKind.u8 0),Leaf.v (Value.int IntKind.u8 0),Leaf.v (Value.int IntKind.u8 0),Leaf.v (Value.int IntKind.u8 0),Leaf.v (Value.int IntKind.u8 0),Leaf.v (Value.int IntKind.u8 0),Leaf.v (Value.int IntKind.u8 0),Leaf.v (Value.int IntKind.u8 0),Leaf.v (Value.int IntKind.u8 0),Leaf.v (Value.int IntKind.u8 0),Leaf.v (Value.int IntKind.u8 0),Leaf.v (Value.int IntKind.u8 0),Leaf.v (Value.int IntKind.u8 0),Leaf.v (Value.int IntKind.u8 0),Leaf.v (Value.int IntKind.u8 0),Leaf.v (Value.int IntKind.u8 0),Leaf.v (Value.int IntKind.u8 0),Leaf.v (Value.int IntKind.u8 0),Leaf.v (Value.int IntKind.u8 0),Leaf.v (Value.int IntKind.u8 0),Leaf.v (Value.int IntKind.u8 0),Leaf.v (Value.int IntKind.u8 0),Leaf.v (Value.int IntKind.u8 0),Leaf.v (Value.int IntKind.u8 0),Leaf.v (Value.int IntKind.u8 0),Leaf.v (Value.int IntKind.u8 0),Leaf.v (Value.int IntKind.u8 0),Leaf.v (Value.int IntKind.u8 0),Leaf.v (Value.int IntKind.u8 0),Leaf.v (Value.int IntKind.u8 0),Leaf.v (Value.int IntKind.u8 0),Leaf.v (Value.int IntKind.u8 0),Leaf.v (Value.int IntKind.u8 0),Leaf.v (Value.int IntKind.u8 0),Leaf.v (Value.int IntKind.u8 0),Leaf.v (Value.int IntKind.u8 0),Leaf.v (Value.int IntKind.u8 0),Leaf.v (Value.int IntKind.u8 0),Leaf.v (Value.int IntKind.u8 0),Leaf.v (Value.int IntKind.u8 0),Leaf.v (Value.int IntKind.u8 0),Leaf.v (Value.int IntKind.u8 0),Leaf.v (Value.int IntKind.u8 0),Leaf.v (Value.int IntKind.u8 0),Leaf.v (Value.int IntKind.u8 0),Leaf.v (Value.int IntKind.u8 0),Leaf.v (Value.int IntKind.u8 0),Leaf.v (Value.int IntKind.u8 0),Leaf.v (Value.int IntKind.u8 0),Leaf.v (Value.int IntKind.u8 0),Leaf.v (Value.int IntKind.u8 0),Leaf.v (Value.int IntKind.u8 0),Leaf.v (Value.int IntKind.u8 0),Leaf.v (Value.int IntKind.u8 0),Leaf.v (Value.int IntKind.u8 0),Leaf.v (Value.int IntKind.u8 0),Leaf.v (Value.int IntKind.u8 0),Leaf.v (Value.int IntKind.u8 0),Leaf.v (Value.int IntKind.u8 0),Leaf.v (Value.int IntKind.u8 0),Leaf.v (Value.int IntKind.u8 0),Leaf.v (Value.int IntKind.u8 0),Leaf.v (Value.int IntKind.u8 0),Leaf.v (Value.int IntKind.u8 0),Leaf.v (Value.int IntKind.u8 0),Leaf.v (Value.int IntKind.u8 0),Leaf.v (Value.int IntKind.u8 0),Leaf.v (Value.int IntKind.u8 0),Leaf.v (Value.int IntKind.u8 0),Leaf.v (Value.int IntKind.u8 0),Leaf.v (Value.int IntKind.u8 0),Leaf.v (Value.int IntKind.u8 0),Leaf.v (Value.int IntKind.u8 0),Leaf.v (Value.int IntKind.u8 0),Leaf.v (Value.int IntKind.u8 0),Leaf.v (Value.int IntKind.u8 0),Leaf.v (Value.int IntKind.u8 0),Leaf.v (Value.int IntKind.u8 0),Leaf.v (Value.int IntKind.u8 0),Leaf.v (Value.int IntKind.u8 0),Leaf.v (Value.int IntKind.u8 0),Leaf.v (Value.int IntKind.u8 0),Leaf.v (Value.int IntKind.u8 0),Leaf.v (Value.int IntKind.u8 0),Leaf.v (Value.int IntKind.u8 0),Leaf.v (Value.int IntKind.u8 0),Leaf.v (Value.int IntKind.u8 0),Leaf.v (Value.int IntKind.u8 0),Leaf.v (Value.int IntKind.u8 0),Leaf.v (Value.int IntKind.u8 0),Leaf.v (Value.int IntKind.u8 0),Leaf.v (Value.int IntKind.u8 0),Leaf.v (Value.int IntKind.u8 0),Leaf.v (Value.int IntKind.u8 0),Leaf.v (Value.int IntKind.u8 0),Leaf.v (Value.int IntKind.u8 0),Leaf.v (Value.int IntKind.u8 0),Leaf.v (Value.int IntKind.u8 0),Leaf.v (Value.int IntKind.u8 0),Leaf.v (Value.int IntKind.u8 0),Leaf.v (Value.int IntKind.u8 0),Leaf.v (Value.int IntKind.u8 0),Leaf.v (Value.int IntKind.u8 0),Leaf.v (Value.int IntKind.u8 0),Leaf.v (Value.int IntKind.u8 0),Leaf.v (Value.int IntKind.u8 0),Leaf.v (Value.int IntKind.u8 0),Leaf.v (Value.int IntKind.u8 0),Leaf.v (Value.int IntKind.u8 0),Leaf.v (Value.int IntKind.u8 0),Leaf.v (Value.int IntKind.u8 0),Leaf.v (Value.int IntKind.u8 0),Leaf.v (Value.int IntKind.u8 0),Leaf.v (Value.int IntKind.u8 0),Leaf.v (Value.int IntKind.u8 0),Leaf.v (Value.int IntKind.u8 0),Leaf.v (Value.int IntKind.u8 0),Leaf.v (Value.int IntKind.u8 0),Leaf.v (Value.int IntKind.u8 0),Leaf.v (Value.int IntKind.u8 0),Leaf.v (Value.int IntKind.u8 0),Leaf.v (Value.int IntKind.u8 0),Leaf.v (Value.int IntKind.u8 0),Leaf.v (Value.int IntKind.u8 0),Leaf.v (Value.int IntKind.u8 0),Leaf.v (Value.int IntKind.u8 0),Leaf.v (Value.int IntKind.u8 0),Leaf.v (Value.int IntKind.u8 0),Leaf.v (Value.int IntKind.u8 0),Leaf.v (Value.int IntKind.u8 0),Leaf.v (Value.int IntKind.u8 0),Leaf.v (Value.int IntKind.u8 0),Leaf.v (Value.int IntKind.u8 0),Leaf.v (Value.int IntKind.u8 0),Leaf.v (Value.int IntKind.u8 0),Leaf.v (Value.int IntKind.u8 0),Leaf.v (Value.int IntKind.u8 0),Leaf.v (Value.int IntKind.u8 0),Leaf.v (Value.int IntKind.u8 0),Leaf.v (Value.int IntKind.u8 0),Leaf.v (Value.int IntKind.u8 0),Leaf.v (Value.int IntKind.u8 0),Leaf.v (Value.int IntKind.u8 0),Leaf.v (Value.int IntKind.u8 0),Leaf.v (Value.int IntKind.u8 0),Leaf.v (Value.int IntKind.u8 0),Leaf.v (Value.int IntKind.u8 0),Leaf.v (Value.int IntKind.u8 0),Leaf.v (Value.int IntKind.u8 0),Leaf.v (Value.int IntKind.u8 0),Leaf.v (Value.int IntKind.u8 0),Leaf.v (Value.int IntKind.u8 0),Leaf.v (Value.int IntKind.u8 0),Leaf.v (Value.int IntKind.u8 0),Leaf.v (Value.int IntKind.u8 0),Leaf.v (Value.int IntKind.u8 0),Leaf.v (Value.int IntKind.u8 0),Leaf.v (Value.int IntKind.u8 0),Leaf.v (Value.int IntKind.u8 0),Leaf.v (Value.int IntKind.u8 0),Leaf.v (Value.int IntKind.u8 0),Leaf.v (Value.int IntKind.u8 0),Leaf.v (Value.int IntKind.u8 0),Leaf.v (Value.int IntKind.u8 0),Leaf.v (Value.int IntKind.u8 0),Leaf.v (Value.int IntKind.u8 0),Leaf.v (Value.int IntKind.u8 0),Leaf.v (Value.int IntKind.u8 0),Leaf.v (Value.int IntKind.u8 0),Leaf.v (Value.int IntKind.u8 0),Leaf.v (Value.int IntKind.u8 0),Leaf.v (Value.int IntKind.u8 0),Leaf.v (Value.int IntKind.u8 0),Leaf.v (Value.int IntKind.u8 0),Leaf.v (Value.int IntKind.u8 0),Leaf.v (Value.int IntKind.u8 0),Leaf.v (Value.int IntKind.u8 0),Leaf.v (Value.int IntKind.u8 0),Leaf.v (Value.int IntKind.u8 0),Leaf.v (Value.int IntKind.u8 0),Leaf.v (Value.int IntKind.u8 0),Leaf.v (Value.int IntKind.u8 0),Leaf.v (Value.int IntKind.u8 0),Leaf.v (Value.int IntKind.u8 0),Leaf.v (Value.int IntKind.u8 0),Leaf.v (Value.int IntKind.u8 0),Leaf.v (Value.int IntKind.u8 0),Leaf.v (Value.int IntKind.u8 0),Leaf.v (Value.int IntKind.u8 0),Leaf.v (Value.int IntKind.u8 0),Leaf.v (Value.int IntKind.u8 0),Leaf.v (Value.int IntKind.u8 0),Leaf.v (Value.int IntKind.u8 0),Leaf.v (Value.int IntKind.u8 0),Leaf.v (Value.int IntKind.u8 0),Leaf.v (Value.int IntKind.u8 0),Leaf.v (Value.int IntKind.u8 0),Leaf.v (Value.int IntKind.u8 0),Leaf.v (Value.int IntKind.u8 0),Leaf.v (Value.int IntKind.u8 0),Leaf.v (Value.int IntKind.u8 0),Leaf.v (Value.int IntKind.u8 0),Leaf.v (Value.int IntKind.u8 0),Leaf.v (Value.int IntKind.u8 0),Leaf.v (Value.int IntKind.u8 0),Leaf.v (Value.int IntKind.u8 0),Leaf.v (Value.int IntKind.u8 0),Leaf.v (Value.int IntKind.u8 0),Leaf.v (Value.int IntKind.u8 0),Leaf.v (Value.int IntKind.u8 0),Leaf.v (Value.int IntKind.u8 0),Leaf.v (Value.int IntKind.u8 0),Leaf.v (Value.int IntKind.u8 0),Leaf.v (Value.int IntKind.u8 0),Leaf.v (Value.int IntKind.u8 0),Leaf.v (Value.int IntKind.u8 0),Leaf.v (Value.int IntKind.u8 0),Leaf.v (Value.int IntKind.u8 0),Leaf.v (Value.int IntKind.u8 0),Leaf.v (Value.int IntKind.u8 0)]) (ag (tl (btT d)))∧InR (rst d (Nat.cast ((mdL s (mdN s)).length):Int)) (0+(mdL s (mdN s)).length)∧(rst d (Nat.cast ((mdL s (mdN s)).length):Int)).toNat*258+2+256≤(rws (mdL s (mdN s))).length∧CallOKd Tryz.prog 12 [] [ag [Leaf.o 5 (0+(mdL s (mdN s)).length)]] [(5,Blk.mk (splice (rws (mdL s (mdN s))) ((rst d (Nat.cast ((mdL s (mdN s)).length):Int)).toNat*258+2) (tl (btT d))) (BT.r 42 258 5))] 7 (SV.tup [Cp.l (Leaf.v (Value.string (ByteArray.mk #[]))),Cp.l (li 1)]) [] 0∧(true=true→true=true∧True)∧(true=true→true=true)∧((bif true then (ByteArray.mk #[]).toList==(ByteArray.mk #[]).toList else false)=true→(bif true then (ByteArray.mk #[]).toList==(ByteArray.mk #[]).toList else false)=true∧True)∧((bif true then (ByteArray.mk #[]).toList==(ByteArray.mk #[]).toList else false)=true→(bif true then (ByteArray.mk #[]).toList==(ByteArray.mk #[]).toList else false)=true)∧Le (bv (bif bif true then (ByteArray.mk #[]).toList==(ByteArray.mk #[]).toList else false then 1==1 else false)) (bv true)∧True)) (by kernel_rfl)
 repeat' (first|exact trivial|with_reducible apply And.intro|(with_reducible apply HB.mk)|with_reducible intro _)
 all_goals first
  |(with_reducible assumption)
  |(with_reducible exact Le.refl _)
  |(with_reducible rfl)
  |((with_reducible exact C10 _))
  |((exact made_any hx _ (by omega)))
  |((first|exact pack_any _ (made_good s) _ _ (by omega)|exact packbad_C d (by with_reducible assumption) _ _ (by omega)))
  |((exact refpack_any _ (made_good s) _ _ (by omega)))
  |((have hf:=fctP d (by with_reducible assumption);(with_reducible refine C14 _ _ ?_ ?_ _)<;>omega))
  |(exact Le.bool rfl)
  |((rw[rws_len];omega))
  |((refine Le.bool ?_;rw[beq_self_eq_true];rfl))
  |((refine Le.int ?_;omega))
  |((have hf:=fctP d (by with_reducible assumption);exact ⟨by omega,by omega⟩))
  |((have hf:=fctP d (by with_reducible assumption);rw[rws_len];omega))
  |(with_reducible exact Le.of (congrArg (fun l=>SV.c (.agg l)) (bt_cells _)))
  |((with_reducible refine apB42 ?_;omega))
  |(exact Le.of (congrArg (fun v=>SV.c (.l v)) (u8_ofI (u8_rng d))))
  |(omega)
  |(exact okw _ (by omega) (by omega))
  |(exact Le.of rfl)
  |(exact BkR.of rfl)
  |(unfold SlOK;omega)
  |(unfold SlOK;decide)
  |(unfold inByte;decide)
  |(simp only[*,Bool.and_self,Bool.not_false,Bool.not_true];done)
  |(simp_all [wants];done)
end Ab
namespace codecPacks
theorem walk (o:Option Addr) (zs:List Int) (n cap:Nat) (d:Int) (w:World) (w0:n*8≤140737488351232) (hn:zs.length=n) (hcap:n≤cap)
  (hc:∀i (h:i<zs.length),∃a,o=some a∧a.block<w.heap.size∧w.cell? (a.add i)=some (.int .i64 zs[i])) (hwf:∀z∈zs,(Lit.int .i64 z).wf=true) (wf1:(Lit.int .i64 d).wf=true) :
  Calls Tryz.prog 3 #[.slice o n cap,.int .i64 d] w fun e w'=>e=.returned (.bool true)∧Below w.heap.size w w':=
 Ab.ints_call (pre:=[]) (post:=[Ab.iv .i64 d]) rfl rfl (fun x p s hx=>Ab.W3 x p s d hx) o zs n cap w w0 hn hcap hc
end codecPacks
namespace Ab
end Ab
end Go.Proofs.YtpdckpifhniioaaGreat
end
section
namespace Go.Proofs.YtpdckpifhniioaaGreat
open Go.WideShapes
section
variable {H:Type} {enc:TypeId×Value→H} {P:Program} {w:World} {base:Nat} {spare:Nat→Bool} {held:Bool}
end
end Go.Proofs.YtpdckpifhniioaaGreat
end
section
namespace Go.Proofs.YtpdckpifhniioaaGreat
open Go.WideShapes Go.ChangeShapes
section
variable {H:Type} {enc:TypeId×Value→H} {P:Program} {W:World} {base:Nat}
theorem row_lt {p:List MemPlace} {a:Addr} {n i:Nat} (hp:p=MemPlace.row a n) (hi:i<n) (hlt:∀x∈p,x.block<W.heap.size):a.block<W.heap.size:=by
 obtain ⟨b,off,spot⟩:=a
 exact hlt (.cell b off) (by rw[hp];exact MemPlace.mem_row.2 ⟨0,by omega,by simp⟩)
theorem open_int_slice {t e:TypeId} {k:IntKind} {r:Reach} {b0:Nat} {v:Value} {d:DataW H} {p:List MemPlace} (ht:P.underlying t=some (.slice e)) (he:P.underlying e=some (.int k)) (hc:P.cellsOf e=1)
  (hv:Value.okWide P W r b0 t v) (h:DataW.Trod enc P W base (fun _=>true) true t v d p) (hlt:∀x∈p,x.block<W.heap.size) :
  ∃(o:Option Addr) (n cap:Nat) (zs:List Int),v=.slice o n cap∧zs.length=n∧n≤cap∧(∀z∈zs,(Lit.int k z).wf=true)∧
   (∀i (h:i<zs.length),∃a,o=some a∧a.block<W.heap.size∧W.cell? (a.add i)=some (.int k zs[i]))∧(d=.nil∧n=0∨∃elems spare,d=.slice elems spare∧elems.length=n):=by
 obtain ⟨o,len,cap,rfl⟩:=okWide_slice ht hv
 obtain ⟨fuel,hf⟩:=h
 rcases open_ints ht he hc hf with ⟨hcs,hx⟩|⟨a,len',cap',zs,hcs,_,hl,hm,hz,hx,hcell,hwz⟩
 ·simp[Value.cells] at hcs
  obtain ⟨rfl,rfl,rfl⟩:=hcs
  simp only[Prod.mk.injEq] at hx
  obtain ⟨rfl,rfl⟩:=hx
  exact ⟨none,0,0,[],rfl,rfl,Nat.le_refl _,by simp,fun i h=>by simp at h,Or.inl ⟨rfl,rfl⟩⟩
 ·simp[Value.cells] at hcs
  obtain ⟨rfl,rfl,rfl⟩:=hcs
  simp only[Prod.mk.injEq] at hx
  obtain ⟨rfl,hp⟩:=hx
  simp only[if_true] at hz
  refine ⟨some a,len,cap,zs.take len,rfl,by rw[List.length_take];omega,hl,fun z hzz=>hwz z (List.mem_of_mem_take hzz),fun i hi=>?_,Or.inr ⟨_,_,rfl,by simp[lits];omega⟩⟩
  rw[List.length_take] at hi
  refine ⟨a,rfl,row_lt hp (show i<zs.length by omega) hlt,?_⟩
  rw[hcell i (by omega),List.getElem_take,List.getD_eq_getElem?_getD,List.getElem?_eq_getElem (by omega)];rfl
theorem reach_slice {ts:List TypeId} {ds:List (DataW H)} {j:Nat} {t e:TypeId} {d:DataW H} {n:Nat} (h:(DataW.weightsEach P ts ds).all (·≤reachBytes)=true) (ht:ts[j]? = some t) (hd:ds[j]? = some d)
  (hu:P.underlying t=some (.slice e)) (hs:d=.nil∧n=0∨∃elems spare,d=.slice elems spare∧elems.length=n):n*P.bytesOf e≤140737488351232:=by
 rcases hs with ⟨_,rfl⟩|⟨elems,spare,rfl,rfl⟩
 ·simp
 ·have:=sized_slice h ht hd hu
  refine Nat.le_trans (Nat.mul_le_mul_right _ (Nat.le_add_right _ _)) (show _≤140737488351232 from this)
end
end Go.Proofs.YtpdckpifhniioaaGreat
end
