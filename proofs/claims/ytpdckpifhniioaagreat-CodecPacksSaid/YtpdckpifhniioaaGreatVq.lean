/- Part 17 of what CodecPacks rests on. -/
import Derived.Test.YtpdckpifhniioaaGreatVl
import Derived.Test.YtpdckpifhniioaaGreatVp
section
set_option linter.unusedVariables false
set_option linter.unusedSimpArgs false
namespace Go.Proofs.YtpdckpifhniioaaGreat
open Go.RowKit
namespace Ab
theorem C106g (l:List TA) (x y:Int) (t:Nat→UInt8) (hl:l.length≤1023) (hb:Behind l x y) (hz:zeroT t=false) (hc:sameT (clnT t) t=true) (id n:Nat) (hi:id<n) :
  CallOK Tryz.prog 106 [.c (.agg [.o id l.length]),ag [li x,li y],.c (.agg (tl t))] [(id,⟨rws l,.r 42 258 id⟩)] n (.c (.agg [.o n (l.length+1)])) [(n,⟨rws l++el ⟨x,y,t⟩,.r 42 258 n⟩)] 1:=by
 have key:=CallOK.at1 (C106 l x y t hl hb hz hc) id n hi
 have e1:=ren_plain (σ:=up1 id n) (plain_rws l)
 have e2:=ren_plain (σ:=up1 id n) (plain_tl t)
 have e3:=ren_plain (σ:=up1 id n) ((plain_rws l).append (plain_el ⟨x,y,t⟩))
 simp only[List.map_cons,List.map_nil,Blk.ren,SV.ren,Cp.ren,Leaf.ren,e1,e2,e3] at key
 exact key
def P106 (S:St) (i:Nat) (x y:Int) (c:List Leaf) (n:Nat):Blk:=match S.blk i with|some k=>⟨k.cs++(li x::li y::c),.r 42 258 n⟩|none=>⟨[],.t 0⟩
attribute [local irreducible] tl sameT zeroT rws
theorem good_append {l:List TA} {x y:Int} {t:Nat→UInt8} (hg:Good l) (hl:l.length≤1023) (hb:Behind l x y) (hi:inB x y=true) (hz:zeroT t=false) (hc:sameT (clnT t) t=true):Good (l++[⟨x,y,t⟩]):=by
 have a1:∀k,k<l.length→at' (l++[⟨x,y,t⟩]) k=at' l k:=fun k hk=>by unfold at';rw[List.getD_eq_getElem?_getD,List.getD_eq_getElem?_getD,List.getElem?_append_left hk]
 have a2:at' (l++[⟨x,y,t⟩]) l.length=⟨x,y,t⟩:=by unfold at';simp
 have hlen:(l++[(⟨x,y,t⟩:TA)]).length=l.length+1:=by simp
 refine ⟨by omega,fun k hk=>?_,fun k hk=>?_,fun k hk=>?_,fun k hk=>?_⟩
 ·rcases Nat.lt_or_ge k l.length with h|h
  ·rw[a1 k h];exact hg.inn k h
  ·rw[show k=l.length by omega,a2];exact hi
 ·rcases Nat.lt_or_ge k l.length with h|h
  ·rw[a1 k h];exact hg.nz k h
  ·rw[show k=l.length by omega,a2];exact hz
 ·rcases Nat.lt_or_ge k l.length with h|h
  ·rw[a1 k h];exact hg.cl k h
  ·rw[show k=l.length by omega,a2];exact hc
 ·rcases Nat.lt_or_ge (k+1) l.length with h|h
  ·rw[a1 k (by omega),a1 (k+1) h];exact hg.ord k h
  ·rw[show k+1=l.length by omega,a2,a1 k (by omega)];exact hb k (by omega)
theorem C105p (l:List TA) (x y:Int) (t:Nat→UInt8) (hl:l.length≤1023) (id n:Nat) (hi:id<n):CallOK Tryz.prog 105 [.c (.agg [.o id (l.length+1)])] [(id,⟨rws l++el ⟨x,y,t⟩,.r 42 258 id⟩)] n (.c (.agg [.o id (l.length+1),li 0])) [] 0:=by
 have key:=C105g (l++[⟨x,y,t⟩]) (by simp;omega) id n hi
 rw[rws_append,rws_one] at key
 simpa using key
theorem enters45:Enters Tryz.prog 45:=fun args w=>by go_simp
def cz_C45 (l:List TA) (x y:Int) (t:Nat→UInt8):Cz:={
 ct:=(fun f=>match f with
 |99=>some fun _ _S ar=>match ar with | [.c (.agg [.o i m])]=>some {v:=.c (.agg [.o i m]),rd:=[i],wr:=[],nw:=0}|_=>none
 |104=>some fun _ _S ar=>match ar with | [.c (.agg [.v (.int _ ax),.v (.int _ ay)])]=>some {v:=bv (inB ax ay),rd:=[],wr:=[],nw:=0}|_=>none
 |105=>some fun _ _S ar=>match ar with | [.c (.agg [.o i m])]=>some {v:=.c (.agg [.o i m,li 0]),rd:=[i],wr:=[],nw:=0}|_=>none
 |106=>some fun _ _S ar=>match ar with | [.c (.agg [.o i m]),.c (.agg [.v (.int _ x),.v (.int _ y)]),.c (.agg c)]=>some {v:=.c (.agg [.o _S.n (m+1)]),rd:=[i],wr:=[(_S.n,P106 _S i x y c _S.n)],nw:=1}|_=>none
 |_=>none)
 eq:=(fun t=>match t with
 |_=>none)
 raw:=[],sym:=[],nf:=[(8,bv true),(9,bv false),(14,.c (.agg (tl t)))],ap:=true,off:=[],on:=[],lp:=fun _=>none,un:=0,wh:=[96]}
set_option maxRecDepth 100000 in
set_option maxHeartbeats 400000 in
theorem C45 (l:List TA) (x y:Int) (t:Nat→UInt8) (hg:Good l) (hl:l.length≤1023) (hb:Behind l x y) (hi:inB x y=true) (hz:zeroT t=false) (hc:sameT (clnT t) t=true):CallOK Tryz.prog 45 [.c (.agg [.o 0 l.length]),ag [li x,li y],.c (.agg (tl t))] [(0,⟨rws l,.r 42 258 0⟩)] 1 (.c (.agg [.o 1 (l.length+1),li 0])) [(1,⟨rws l++el ⟨x,y,t⟩,.r 42 258 1⟩)] 1:=by
 refine call_ok (cx:=cz_C45 l x y t) (nm:=[5]) rfl Tryz.func45 (body:=Tryz.f45.body.getD .skip) rfl enters45 (by unfold inck;simp only[List.all_cons,List.all_nil,blkLt_plain (plain_rws l) (show (BT.rn (rnId 1 0 []) (.r 42 258 0)).isSome=true from rfl),Bool.and_true,Bool.true_and];kernel_rfl) ?_
 apply of_eq (q:=CallOKd Tryz.prog 104 [] [ag [li x,li y]] [] 5 (bv (inB x y)) [] 0∧Le (bv (inB x y)) (bv true)∧Le (bv !true) (bv false)∧CallOKd Tryz.prog 99 [] [ag [Leaf.o 0 l.length]] [(0,Blk.mk (rws l) (BT.r 42 258 0))] 5 (ag [Leaf.o 0 l.length]) [] 0∧Le (ag (List.take 256 (tl t))) (ag (tl t))∧CallOKd Tryz.prog 106 [] [ag [Leaf.o 0 l.length],ag [li x,li y],ag (tl t)] [(0,Blk.mk (rws l) (BT.r 42 258 0))] 5 (ag [Leaf.o 5 (l.length+1)]) [(5,Blk.mk (rws l++li x::li y::tl t) (BT.r 42 258 5))] 1∧CallOKd Tryz.prog 105 [] [ag [Leaf.o 5 (l.length+1)]] [(5,Blk.mk (rws l++li x::li y::tl t) (BT.r 42 258 5))] 6 (ag [Leaf.o 5 (l.length+1),li 0]) [] 0∧0=0∧2=2∧Le (ag [Leaf.o 1 (l.length+1),li 0]) (ag [Leaf.o 1 (l.length+1),li 0])∧BkR (rnId 1 0 [5]) (Blk.mk (rws l++li x::li y::tl t) (BT.r 42 258 5)) (Blk.mk (rws l++el (TA.mk x y t)) (BT.r 42 258 1))∧True) (by kernel_rfl)
 repeat' (first|exact trivial|with_reducible apply And.intro|(with_reducible apply HB.mk)|with_reducible intro _)
 all_goals first
  |(with_reducible exact Le.refl _)
  |(with_reducible rfl)
  |((with_reducible exact C99g _ hg _ _ (by omega)))
  |(with_reducible exact C104 _ _ _)
  |(exact Le.bool hi)
  |(exact C106g l x y t hl hb hz hc _ _ (by omega))
  |(exact Le.bool rfl)
  |(exact Le.of (congrArg (fun l=>SV.c (.agg l)) (tl_take _)))
  |(exact C105p l x y t hl _ _ (by omega))
  |(exact BkR.plain rfl ((plain_rws l).append (plain_el _)) (by kernel_rfl))
end Ab
end Go.Proofs.YtpdckpifhniioaaGreat
end
section
set_option linter.unusedVariables false
set_option linter.unusedSimpArgs false
namespace Go.Proofs.YtpdckpifhniioaaGreat
open Go.RowKit
namespace Ab
theorem C45g (l:List TA) (x y:Int) (t:Nat→UInt8) (hg:Good l) (hl:l.length≤1023) (hb:Behind l x y) (hi:inB x y=true) (hz:zeroT t=false) (hc:sameT (clnT t) t=true) (id n:Nat) (hid:id<n) :
  CallOK Tryz.prog 45 [.c (.agg [.o id l.length]),ag [li x,li y],.c (.agg (tl t))] [(id,⟨rws l,.r 42 258 id⟩)] n (.c (.agg [.o n (l.length+1),li 0])) [(n,⟨rws l++el ⟨x,y,t⟩,.r 42 258 n⟩)] 1:=by
 have key:=CallOK.at1 (C45 l x y t hg hl hb hi hz hc) id n hid
 have e1:=ren_plain (σ:=up1 id n) (plain_rws l)
 have e2:=ren_plain (σ:=up1 id n) (plain_tl t)
 have e3:=ren_plain (σ:=up1 id n) ((plain_rws l).append (plain_el ⟨x,y,t⟩))
 simp only[List.map_cons,List.map_nil,Blk.ren,SV.ren,Cp.ren,Leaf.ren,e1,e2,e3] at key
 exact key
def lsI (l:List Leaf):List Int:=l.map fun x=>match x with | .v (.int _ n)=>n|_=>0
def M43 (S:St) (i o y:Nat):List Leaf:=match S.blk i with|some k=>tl (mdT (lsI k.cs) o y)|none=>[]
def tM (s:List Int) (k:Nat):Nat→UInt8:=bif rst (s.getD k 0) 4==0 then mdT s k 1 else mdT s k (s.length-k)
def pX (s:List Int) (k:Nat):Int:=((k:Nat):Int)-2+3*rst (s.getD 0 0) 2
def pY (k:Nat):Int:=((k:Nat):Int).tdiv 2
def mdL (s:List Int):Nat→List TA
 |0=>[]
 |k+1=>bif zeroT (tM s k) then mdL s k else mdL s k++[⟨pX s k,pY k,tM s k⟩]
def mdN (s:List Int):Nat:=min s.length 6
def I11 (p:Nat) (s:List Int) (k:Nat):St:=⟨[(4,iv .i64 (k:Nat)),(3,.c (.l (.p 2 0))),(2,.c (.l (.p 1 0))),(0,.c (.l (.s 0 p s.length)))],[(0,some ⟨qls p s,.q⟩),(1,some ⟨[.v (.slice none 0 0)],.t 26⟩),(2,some ⟨[.o 3 (mdL s k).length],.t 26⟩),(3,some ⟨rws (mdL s k),.r 42 258 3⟩)],4,57,[3,2,1],(1)⟩
theorem lsI_qls (p:Nat) (s:List Int):lsI (qls p s)=List.replicate p 0++s:=by
 unfold lsI qls
 rw[List.map_append,List.map_replicate,List.map_map]
 exact congrArg _ (List.map_id s)
theorem mdT_pad (p:Nat) (s:List Int) (o n:Nat):mdT (List.replicate p 0++s) (p+o) n=mdT s o n:=by
 have hx:∀i,xM (List.replicate p 0++s) (p+o) n i=xM s o n i:=fun i=>by
  unfold xM
  rw[Nat.add_assoc,getD_pad]
 have hy:∀i,yM (List.replicate p 0++s) (p+o) n i=yM s o n i:=fun i=>by
  unfold yM
  rw[hx i]
 funext i
 unfold mdT
 rw[hy]
theorem C43L (p:Nat) (cs:List Leaf) (s:List Int) (h:cs=qls p s) (o y:Nat) (h0:p≤o) (hn:0<y) (ho:o+y≤p+s.length) (hs:s.length≤20000000000000) (id n:Nat) (hi:id<n):CallOK Tryz.prog 43 [.c (.l (.s id o y))] [(id,⟨cs,.q⟩)] n (.c (.agg (tl (mdT (lsI cs) o y)))) [] 0:=by
 subst h
 obtain ⟨z,rfl⟩:∃z,o=p+z:=⟨o-p,by omega⟩
 rw[lsI_qls,mdT_pad];exact C43g p s z y hn (by omega) hs id n hi
theorem qls_ne' (p:Nat) (s:List Int) {i:Nat} (h:p≤i) (h2:i<p+s.length):(qls p s).getD i .u≠.u:=by
 obtain ⟨z,rfl⟩:∃z,i=p+z:=⟨i-p,by omega⟩
 exact qls_ne p s (by omega)
theorem tM_t {s:List Int} {k:Nat} (h:(rst (s.getD k 0) 4==0)=true):mdT s k 1=tM s k:=by unfold tM;rw[h];rfl
theorem tM_f {s:List Int} {k:Nat} (h:(rst (s.getD k 0) 4==0)=false):mdT s k (s.length-k)=tM s k:=by unfold tM;rw[h];rfl
theorem pcb_idem (e x:UInt8):pcb (pcb e e) (pcb e x)=pcb e x:=by
 unfold pcb
 by_cases h:e=0
 ·simp[h]
 ·simp[h]
theorem mdT_clean (s:List Int) (o n:Nat):sameT (clnT (mdT s o n)) (mdT s o n)=true:=by
 rw[sameT_iff]
 intro i hi
 unfold clnT mdT
 have e1:(4*(i / 4)+3) / 4=i / 4:=by omega
 have e2:(4*(i / 4)+3) % 4=3:=by omega
 rw[e1,e2]
 unfold pxC
 exact pcb_idem _ _
theorem tM_clean (s:List Int) (k:Nat):sameT (clnT (tM s k)) (tM s k)=true:=by
 unfold tM
 cases rst (s.getD k 0) 4==0
 ·exact mdT_clean _ _ _
 ·exact mdT_clean _ _ _
theorem mdL_mem (s:List Int):∀k,∀e∈mdL s k,∃j,j<k∧e.X=pX s j∧e.Y=pY j
 |0,e,h=>by cases h
 |k+1,e,h=>by
  unfold mdL at h
  cases hz:zeroT (tM s k) with
  |true=>
   rw[hz] at h
   obtain ⟨j,hj,h1⟩:=mdL_mem s k e h
   exact ⟨j,by omega,h1⟩
  |false=>
   rw[hz] at h
   rcases List.mem_append.1 h with h|h
   ·obtain ⟨j,hj,h1⟩:=mdL_mem s k e h
    exact ⟨j,by omega,h1⟩
   ·rw[List.mem_singleton] at h
    subst h
    exact ⟨k,Nat.lt_succ_self k,rfl,rfl⟩
theorem at_mem {l:List TA} {k:Nat} (h:k<l.length):at' l k∈l:=List.mem_of_getElem? (at_get h)
theorem pY_eq (k:Nat):pY k=((k / 2:Nat):Int):=by
 unfold pY
 rw[Int.tdiv_eq_ediv_of_nonneg (by omega)];rfl
theorem mdL_behind (s:List Int) (k:Nat):Behind (mdL s k) (pX s k) (pY k):=fun i hi=>by
 obtain ⟨j,hj,h1,h2⟩:=mdL_mem s k _ (at_mem hi)
 rw[h1,h2,pY_eq,pY_eq]
 unfold pX
 omega
theorem mdL_len (s:List Int):∀k,(mdL s k).length≤k
 |0=>Nat.le_refl _
 |k+1=>by
  unfold mdL
  have:=mdL_len s k
  cases zeroT (tM s k)
  ·show (mdL s k++_).length≤_
   rw[List.length_append];exact Nat.add_le_add_right this 1
  ·exact Nat.le_succ_of_le this
theorem rst2 (x:Int):0≤rst x 2∧rst x 2<2:=by
 have:=rest_bd (x:=x) (n:=2) (by decide) (by decide)
 exact ⟨this.1,this.2.1⟩
theorem pX_bd (s:List Int) {k:Nat} (hk:k<6) : -2≤pX s k∧pX s k≤6:=by
 have:=rst2 (s.getD 0 0)
 unfold pX
 omega
theorem pos_in (s:List Int) {k:Nat} (hk:k<6):inB (pX s k) (pY k)=true:=by
 have:=pX_bd s hk
 rw[pY_eq]
 exact decide_eq_true (by omega)
theorem mdL_good (s:List Int):∀k,k≤6→Good (mdL s k)
 |0,_=>⟨Nat.zero_le 1024,fun k h=>absurd h (Nat.not_lt_zero k),fun k h=>absurd h (Nat.not_lt_zero k),fun k h=>absurd h (Nat.not_lt_zero k),fun k h=>absurd h (Nat.not_lt_zero _)⟩
 |k+1,hk=>by
  unfold mdL
  have hg:=mdL_good s k (by omega)
  cases hz:zeroT (tM s k) with
  |true=>exact hg
  |false=>exact good_append hg (by have:=mdL_len s k;omega) (mdL_behind s k) (pos_in s (by omega)) hz (tM_clean s k)
theorem mdL_t {s:List Int} {k:Nat} (h:(!(zeroT (tM s k)))=false):mdL s (k+1)=mdL s k:=by
 rw[mdL,not_t h];rfl
theorem mdL_f {s:List Int} {k:Nat} (h:(!(zeroT (tM s k)))=true):rws (mdL s k)++el ⟨pX s k,pY k,tM s k⟩=rws (mdL s (k+1))∧(mdL s k).length+1=(mdL s (k+1)).length:=by
 rw[mdL,not_f h]
 show _=rws (mdL s k++_)∧_=(mdL s k++_).length
 rw[rws_append,rws_one,List.length_append]
 exact ⟨rfl,rfl⟩
attribute [local irreducible] tl sameT zeroT rws mdT tM pX pY mdL
theorem head11 (s:List Int) (k:Nat):(bif decide (((k:Nat):Int)<(s.length:Nat)) then decide (((k:Nat):Int)<6) else false)=decide (((k:Nat):Int)<(mdN s:Nat)):=by
 unfold mdN
 by_cases h1:((k:Nat):Int)<(s.length:Nat)
 ·rw[decide_eq_true h1]
  show decide _=_
  exact decide_eq_decide.2 (by omega)
 ·rw[decide_eq_false h1]
  exact (decide_eq_false (by omega)).symm
def cz_R11 (p:Nat) (s:List Int) (k:Nat):Cz:={
 ct:=(fun f=>match f with
 |14=>some fun _ _S ar=>match ar with | [.c (.l (.v (.int _ x))),.c (.l (.v (.int _ n)))]=>some {v:=iv .i64 (rst x n),rd:=[],wr:=[],nw:=0}|_=>none
 |43=>some fun _ _S ar=>match ar with | [.c (.l (.s i o y))]=>some {v:=.c (.agg (M43 _S i o y)),rd:=[i],wr:=[],nw:=0}|_=>none
 |44=>some fun _ _S ar=>match ar with | [.c (.agg l)]=>some {v:=bv (zeroT (lsB l)),rd:=[],wr:=[],nw:=0}|_=>none
 |45=>some fun _ _S ar=>match ar with | [.c (.agg [.o i m]),.c (.agg [.v (.int _ x),.v (.int _ y)]),.c (.agg c)]=>some {v:=.c (.agg [.o _S.n (m+1),li 0]),rd:=[i],wr:=[(_S.n,P106 _S i x y c _S.n)],nw:=1}|_=>none
 |_=>none)
 eq:=(fun t=>match t with
 |_=>none)
 raw:=[],sym:=[0,25,26,40,41],nf:=[(16,bv (decide (((k:Nat):Int)<(mdN s:Nat)))),(22,.c (.agg (tl (mdT s k (s.length-k))))),(26,iv .i64 (s.getD k 0)),(34,.c (.agg (tl (mdT s k 1)))),(35,.c (.agg (tl (tM s k)))),(36,bv (zeroT (tM s k))),(41,iv .i64 (s.getD 0 0)),(44,iv .i64 (pX s k)),(46,iv .i64 (pY k)),(52,.c (.agg (tl (tM s k))))],ap:=true,off:=[],on:=[],lp:=fun _=>none,un:=0,wh:=[26,38,40,96]}
set_option maxRecDepth 100000 in
theorem R11 (p:Nat) (s:List Int) (k:Nat)  (K:Exit→St→Prop) (h:(decide ((Nat.cast k:Int)<(Nat.cast s.length:Int))=true→decide ((Nat.cast k:Int)<(Nat.cast s.length:Int))=true∧True)∧(decide ((Nat.cast k:Int)<(Nat.cast s.length:Int))=true→decide ((Nat.cast k:Int)<(Nat.cast s.length:Int))=true)∧Le (bv (bif decide ((Nat.cast k:Int)<(Nat.cast s.length:Int)) then decide ((Nat.cast k:Int)<6) else false)) (bv (decide ((Nat.cast k:Int)<(Nat.cast ((mdN s)):Int))))∧HB (decide ((Nat.cast k:Int)<(Nat.cast ((mdN s)):Int))) (SlS (Nat.cast k:Int) (Nat.cast s.length:Int) (Nat.cast s.length:Int)∧CallOKd Tryz.prog 43 [] [SV.c (Cp.l (Leaf.s 0 (p+((Nat.cast k:Int)).toNat*1) ((Nat.cast s.length:Int)-(Nat.cast k:Int)).toNat))] [(0,Blk.mk (qls p s) BT.q)] 4 (ag (tl (mdT (lsI (qls p s)) (p+((Nat.cast k:Int)).toNat*1) ((Nat.cast s.length:Int)-(Nat.cast k:Int)).toNat))) [] 0∧Le (ag (tl (mdT (lsI (qls p s)) (p+((Nat.cast k:Int)).toNat*1) ((Nat.cast s.length:Int)-(Nat.cast k:Int)).toNat))) (ag (tl (mdT s k (s.length-k))))∧256≤256∧0=0∧256=256∧InR ((Nat.cast k:Int)) s.length∧p+((Nat.cast k:Int)).toNat*1<(qls p s).length∧(qls p s).getD (p+((Nat.cast k:Int)).toNat*1) Leaf.u≠Leaf.u∧Le (SV.c (Cp.l ((qls p s).getD (p+((Nat.cast k:Int)).toNat*1) Leaf.u))) (iv IntKind.i64 (s.getD k 0))∧CallOKd Tryz.prog 14 [] [iv IntKind.i64 (s.getD k 0),iv IntKind.i64 4] [] 5 (iv IntKind.i64 (rst (s.getD k 0) 4)) [] 0∧HB (rst (s.getD k 0) 4==0) (IntKind.i64.wrap ((Nat.cast k:Int)+1)=(Nat.cast k:Int)+1∧SlS ((Nat.cast k:Int)) ((Nat.cast k:Int)+1) (Nat.cast s.length:Int)∧CallOKd Tryz.prog 43 [] [SV.c (Cp.l (Leaf.s 0 (p+((Nat.cast k:Int)).toNat*1) ((Nat.cast k:Int)+1-(Nat.cast k:Int)).toNat))] [(0,Blk.mk (qls p s) BT.q)] 5 (ag (tl (mdT (lsI (qls p s)) (p+((Nat.cast k:Int)).toNat*1) ((Nat.cast k:Int)+1-(Nat.cast k:Int)).toNat))) [] 0∧Le (ag (tl (mdT (lsI (qls p s)) (p+((Nat.cast k:Int)).toNat*1) ((Nat.cast k:Int)+1-(Nat.cast k:Int)).toNat))) (ag (tl (mdT s k 1)))∧256≤256∧0=0∧256=256∧Le (ag (List.take 256 (tl (mdT s k 1)))) (ag (tl (tM s k)))∧CallOKd Tryz.prog 44 [] [ag (tl (tM s k))] [] 5 (bv (zeroT (lsB (tl (tM s k))))) [] 0∧Le (bv (zeroT (lsB (tl (tM s k))))) (bv (zeroT (tM s k)))∧IntKind.i64.wrap ((Nat.cast k:Int)-2)=(Nat.cast k:Int)-2∧InR 0 s.length∧p+Int.toNat 0*1<(qls p s).length∧(qls p s).getD (p+Int.toNat 0*1) Leaf.u≠Leaf.u∧Le (SV.c (Cp.l ((qls p s).getD (p+Int.toNat 0*1) Leaf.u))) (iv IntKind.i64 (s.getD 0 0))∧CallOKd Tryz.prog 14 [] [iv IntKind.i64 (s.getD 0 0),iv IntKind.i64 2] [] 5 (iv IntKind.i64 (rst (s.getD 0 0) 2)) [] 0∧IntKind.i64.wrap (3*rst (s.getD 0 0) 2)=3*rst (s.getD 0 0) 2∧IntKind.i64.wrap ((Nat.cast k:Int)-2+3*rst (s.getD 0 0) 2)=(Nat.cast k:Int)-2+3*rst (s.getD 0 0) 2∧Le (iv IntKind.i64 ((Nat.cast k:Int)-2+3*rst (s.getD 0 0) 2)) (iv IntKind.i64 (pX s k))∧(2:Int)≠0∧IntKind.i64.wrap (((Nat.cast k:Int)).tdiv 2)=((Nat.cast k:Int)).tdiv 2∧Le (iv IntKind.i64 (((Nat.cast k:Int)).tdiv 2)) (iv IntKind.i64 (pY k))∧2≤2∧0=0∧2=2∧HB (!zeroT (tM s k)) (Le (ag (List.take 256 (tl (mdT s k 1)))) (ag (tl (tM s k)))∧CallOKd Tryz.prog 45 [] [ag [Leaf.o 3 (mdL s k).length],ag [li (pX s k),li (pY k)],ag (tl (tM s k))] [(3,Blk.mk (rws (mdL s k)) (BT.r 42 258 3))] 6 (ag [Leaf.o 6 ((mdL s k).length+1),li 0]) [(6,Blk.mk (rws (mdL s k)++li (pX s k)::li (pY k)::tl (tM s k)) (BT.r 42 258 6))] 1∧2≤2∧0=0∧2=2∧1≤1∧0=0∧1=1∧IntKind.i64.wrap ((Nat.cast k:Int)+1)=(Nat.cast k:Int)+1∧RoundTo Tryz.prog ((getLoop 3 (Tryz.f11.body.getD Code.skip)).getD Code.skip) 4 (wkK 4 K) (St.mk [(0,SV.c (Cp.l (Leaf.s 0 p s.length))),(2,SV.c (Cp.l (Leaf.p 1 0))),(3,SV.c (Cp.l (Leaf.p 2 0))),(4,iv IntKind.i64 ((Nat.cast k:Int)+1))] [(0,some (Blk.mk (qls p s) BT.q)),(1,some (Blk.mk [Leaf.v (Value.slice none 0 0)] (BT.t 26))),(2,some (Blk.mk [Leaf.o 6 ((mdL s k).length+1)] (BT.t 26))),(3,some (Blk.mk (rws (mdL s k)) (BT.r 42 258 3))),(4,some (Blk.mk (tl (mdT s k 1)) (BT.t 38))),(5,some (Blk.mk [li (pX s k),li (pY k)] (BT.t 40))),(6,some (Blk.mk (rws (mdL s k)++li (pX s k)::li (pY k)::tl (tM s k)) (BT.r 42 258 6))),(7,some (Blk.mk [Leaf.o 6 ((mdL s k).length+1),li 0] (BT.t 96)))] 8 57 [2,7,7,6,5,5,4,4,4,3,2,1] 1)) (IntKind.i64.wrap ((Nat.cast k:Int)+1)=(Nat.cast k:Int)+1∧RoundTo Tryz.prog ((getLoop 3 (Tryz.f11.body.getD Code.skip)).getD Code.skip) 4 (wkK 4 K) (St.mk [(0,SV.c (Cp.l (Leaf.s 0 p s.length))),(2,SV.c (Cp.l (Leaf.p 1 0))),(3,SV.c (Cp.l (Leaf.p 2 0))),(4,iv IntKind.i64 ((Nat.cast k:Int)+1))] [(0,some (Blk.mk (qls p s) BT.q)),(1,some (Blk.mk [Leaf.v (Value.slice none 0 0)] (BT.t 26))),(2,some (Blk.mk [Leaf.o 3 (mdL s k).length] (BT.t 26))),(3,some (Blk.mk (rws (mdL s k)) (BT.r 42 258 3))),(4,some (Blk.mk (tl (mdT s k 1)) (BT.t 38))),(5,some (Blk.mk [li (pX s k),li (pY k)] (BT.t 40))),(6,none),(7,none)] 6 57 [5,5,4,4,4,3,2,1] 1))) (Le (ag (List.take 256 (tl (mdT s k (s.length-k))))) (ag (tl (tM s k)))∧CallOKd Tryz.prog 44 [] [ag (tl (tM s k))] [] 5 (bv (zeroT (lsB (tl (tM s k))))) [] 0∧Le (bv (zeroT (lsB (tl (tM s k))))) (bv (zeroT (tM s k)))∧IntKind.i64.wrap ((Nat.cast k:Int)-2)=(Nat.cast k:Int)-2∧InR 0 s.length∧p+Int.toNat 0*1<(qls p s).length∧(qls p s).getD (p+Int.toNat 0*1) Leaf.u≠Leaf.u∧Le (SV.c (Cp.l ((qls p s).getD (p+Int.toNat 0*1) Leaf.u))) (iv IntKind.i64 (s.getD 0 0))∧CallOKd Tryz.prog 14 [] [iv IntKind.i64 (s.getD 0 0),iv IntKind.i64 2] [] 5 (iv IntKind.i64 (rst (s.getD 0 0) 2)) [] 0∧IntKind.i64.wrap (3*rst (s.getD 0 0) 2)=3*rst (s.getD 0 0) 2∧IntKind.i64.wrap ((Nat.cast k:Int)-2+3*rst (s.getD 0 0) 2)=(Nat.cast k:Int)-2+3*rst (s.getD 0 0) 2∧Le (iv IntKind.i64 ((Nat.cast k:Int)-2+3*rst (s.getD 0 0) 2)) (iv IntKind.i64 (pX s k))∧(2:Int)≠0∧IntKind.i64.wrap (((Nat.cast k:Int)).tdiv 2)=((Nat.cast k:Int)).tdiv 2∧Le (iv IntKind.i64 (((Nat.cast k:Int)).tdiv 2)) (iv IntKind.i64 (pY k))∧2≤2∧0=0∧2=2∧HB (!zeroT (tM s k)) (Le (ag (List.take 256 (tl (mdT s k (s.length-k))))) (ag (tl (tM s k)))∧CallOKd Tryz.prog 45 [] [ag [Leaf.o 3 (mdL s k).length],ag [li (pX s k),li (pY k)],ag (tl (tM s k))] [(3,Blk.mk (rws (mdL s k)) (BT.r 42 258 3))] 6 (ag [Leaf.o 6 ((mdL s k).length+1),li 0]) [(6,Blk.mk (rws (mdL s k)++li (pX s k)::li (pY k)::tl (tM s k)) (BT.r 42 258 6))] 1∧2≤2∧0=0∧2=2∧1≤1∧0=0∧1=1∧IntKind.i64.wrap ((Nat.cast k:Int)+1)=(Nat.cast k:Int)+1∧RoundTo Tryz.prog ((getLoop 3 (Tryz.f11.body.getD Code.skip)).getD Code.skip) 4 (wkK 4 K) (St.mk [(0,SV.c (Cp.l (Leaf.s 0 p s.length))),(2,SV.c (Cp.l (Leaf.p 1 0))),(3,SV.c (Cp.l (Leaf.p 2 0))),(4,iv IntKind.i64 ((Nat.cast k:Int)+1))] [(0,some (Blk.mk (qls p s) BT.q)),(1,some (Blk.mk [Leaf.v (Value.slice none 0 0)] (BT.t 26))),(2,some (Blk.mk [Leaf.o 6 ((mdL s k).length+1)] (BT.t 26))),(3,some (Blk.mk (rws (mdL s k)) (BT.r 42 258 3))),(4,some (Blk.mk (tl (mdT s k (s.length-k))) (BT.t 38))),(5,some (Blk.mk [li (pX s k),li (pY k)] (BT.t 40))),(6,some (Blk.mk (rws (mdL s k)++li (pX s k)::li (pY k)::tl (tM s k)) (BT.r 42 258 6))),(7,some (Blk.mk [Leaf.o 6 ((mdL s k).length+1),li 0] (BT.t 96)))] 8 57 [2,7,7,6,5,5,4,4,3,2,1] 1)) (IntKind.i64.wrap ((Nat.cast k:Int)+1)=(Nat.cast k:Int)+1∧RoundTo Tryz.prog ((getLoop 3 (Tryz.f11.body.getD Code.skip)).getD Code.skip) 4 (wkK 4 K) (St.mk [(0,SV.c (Cp.l (Leaf.s 0 p s.length))),(2,SV.c (Cp.l (Leaf.p 1 0))),(3,SV.c (Cp.l (Leaf.p 2 0))),(4,iv IntKind.i64 ((Nat.cast k:Int)+1))] [(0,some (Blk.mk (qls p s) BT.q)),(1,some (Blk.mk [Leaf.v (Value.slice none 0 0)] (BT.t 26))),(2,some (Blk.mk [Leaf.o 3 (mdL s k).length] (BT.t 26))),(3,some (Blk.mk (rws (mdL s k)) (BT.r 42 258 3))),(4,some (Blk.mk (tl (mdT s k (s.length-k))) (BT.t 38))),(5,some (Blk.mk [li (pX s k),li (pY k)] (BT.t 40))),(6,none),(7,none)] 6 57 [5,5,4,4,3,2,1] 1)))) (wkK 4 K (Exit.exit 0) (St.mk [(0,SV.c (Cp.l (Leaf.s 0 p s.length))),(2,SV.c (Cp.l (Leaf.p 1 0))),(3,SV.c (Cp.l (Leaf.p 2 0))),(4,iv IntKind.i64 (Nat.cast k:Int))] [(0,some (Blk.mk (qls p s) BT.q)),(1,some (Blk.mk [Leaf.v (Value.slice none 0 0)] (BT.t 26))),(2,some (Blk.mk [Leaf.o 3 (mdL s k).length] (BT.t 26))),(3,some (Blk.mk (rws (mdL s k)) (BT.r 42 258 3))),(4,none),(5,none),(6,none),(7,none)] 4 57 [3,2,1] 1))):WPL Tryz.prog ((getLoop 3 (Tryz.f11.body.getD .skip)).getD .skip) (I11 p s k) (wkK 4 K):=
 wp_roundT [0,2,3,4] [0,1,2,3,4,5,6,7] (cx:=cz_R11 p s k) rfl (of_eq (by kernel_rfl) h)
set_option maxRecDepth 100000 in
set_option maxHeartbeats 4000000 in
theorem L11 (p:Nat) (s:List Int) (hs:s.length≤20000000000000):∀(m k:Nat),(mdN s)-k=m→k≤(mdN s)→∀(K:Exit→St→Prop),K (.exit 0) (I11 p s (mdN s))→WPL Tryz.prog ((getLoop 3 (Tryz.f11.body.getD .skip)).getD .skip) (I11 p s k) (wkK 4 K)
 |0,k,hm,hk,K,hK=>by
  have e:k=(mdN s):=by omega
  subst e
  refine R11 p s _ K ⟨fun h=>⟨h,trivial⟩,⟨fun h=>h,⟨Le.bool (head11 s _),(HB.mk (fun hne=>absurd (of_decide_eq_true hne) (by omega)) (fun he=>?_))⟩⟩⟩
  exact wkK.to (I11 p s _) (Nat.le_refl _) (by kernel_rfl) (wkE_cons (LeN.sl (by kernel_rfl) rfl) (wkE_cons (LeN.sl (by kernel_rfl) rfl) (wkE_cons (LeN.sl (by kernel_rfl) rfl) (wkE_cons (LeN.sl (by kernel_rfl) rfl) trivial)))) (wkH_cons (BkN.fix (cs:=qls p s) (b:=.q) (by kernel_rfl) (rfl) (fix_qls p s) (by kernel_rfl)) (wkH_cons (BkN.blk (k:=⟨[.v (.slice none 0 0)],.t 26⟩) (by kernel_rfl) (rfl) (by kernel_rfl)) (wkH_cons (BkN.blk (k:=⟨[.o 3 (mdL s (mdN s)).length],.t 26⟩) (by kernel_rfl) (rfl) (by kernel_rfl)) (wkH_cons (BkN.plain (cs:=rws (mdL s (mdN s))) (b:=.r 42 258 3) (by kernel_rfl) (rfl) (plain_rws _) (by kernel_rfl)) trivial)))) hK
 |m+1,k,hm,hk,K,hK=>by
  refine R11 p s k K ⟨fun h=>⟨h,trivial⟩,⟨fun h=>h,⟨Le.bool (head11 s _),(HB.mk (fun hne=>?_) (fun he=>absurd (show ((k:Nat):Int)<((mdN s):Nat) by omega) (of_decide_eq_false he)))⟩⟩⟩
  have hlt:k<(mdN s):=by omega
  have hk1:k<s.length:=Nat.lt_of_lt_of_le hlt (Nat.min_le_left _ _)
  have hk6:k<6:=Nat.lt_of_lt_of_le hlt (Nat.min_le_right _ _)
  have hY:((k:Nat):Int).tdiv 2=((k / 2:Nat):Int):=by rw[←pY_eq];unfold pY;rfl
  repeat' (first|exact trivial|with_reducible apply And.intro|(with_reducible apply HB.mk)|with_reducible intro _)
  all_goals first
   |(with_reducible rfl)
   |(((with_reducible refine C14 _ _ ?_ ?_ _)<;>omega))
   |(((with_reducible refine C43L p _ s rfl _ _ ?_ ?_ ?_ ?_ _ _ ?_)<;>omega))
   |((with_reducible exact C44L _ _ rfl _))
   |((unfold SlS;omega))
   |((exact ⟨by omega,by omega⟩))
   |(exact Le.of (by rw[lsI_qls,show p+((k:Nat):Int).toNat*1=p+k by omega,mdT_pad,show (((s.length:Nat):Int)-((k:Nat):Int)).toNat=s.length-k by omega]))
   |(exact Le.of (by rw[lsI_qls,show p+((k:Nat):Int).toNat*1=p+k by omega,mdT_pad,show (((k:Nat):Int)+1-((k:Nat):Int)).toNat=1 by omega]))
   |((rw[qls_len];omega))
   |((refine qls_ne' p s ?_ ?_<;>omega))
   |(exact Le.of (congrArg (fun l=>SV.c (.l l)) (by rw[show p+((k:Nat):Int).toNat*1=p+k by omega];exact qls_at p s hk1)))
   |(exact Le.of (congrArg (fun l=>SV.c (.l l)) (qls_at p s (i:=0) (by omega))))
   |(exact Le.of (congrArg (fun l=>SV.c (.agg l)) ((tl_take _).trans (by rw[tM_t (by with_reducible assumption)]))))
   |(exact Le.of (congrArg (fun l=>SV.c (.agg l)) ((tl_take _).trans (by rw[tM_f (by with_reducible assumption)]))))
   |(exact Le.bool (by rw[zeroT_lsB]))
   |((have:=rst2 (s.getD 0 0);exact okw _ (by omega) (by omega)))
   |(exact Le.int (by unfold pX;rfl))
   |(exact Le.int (by unfold pY;rfl))
   |(exact C45g _ _ _ _ (mdL_good s k (by omega)) (by have:=mdL_len s k;omega) (mdL_behind s k) (pos_in s hk6) (not_f (by with_reducible assumption)) (tM_clean s k) _ _ (by omega))
   |(omega)
   |(have hcnd:(!zeroT (tM s k))=false:=(by with_reducible assumption);(with_reducible refine RoundTo.toN 6 (I11 p s (k+1)) ?_ ?_ ?_ ?_ ?_);exact Nat.le_refl _;kernel_rfl;exact (wkE_cons (LeN.sl (by kernel_rfl) rfl) (wkE_cons (LeN.sl (by kernel_rfl) rfl) (wkE_cons (LeN.sl (by kernel_rfl) rfl) (wkE_cons (LeN.sl (by kernel_rfl) rfl) trivial))));exact (wkH_cons (BkN.fix (cs:=qls p s) (b:=.q) (by kernel_rfl) (rfl) (fix_qls p s) (by kernel_rfl)) (wkH_cons (BkN.blk (k:=⟨[.v (.slice none 0 0)],.t 26⟩) (by kernel_rfl) (rfl) (by kernel_rfl)) (wkH_cons (BkN.blk (k:=⟨[.o 3 (mdL s k).length],.t 26⟩) (by kernel_rfl) (by rw[mdL_t hcnd]) (by kernel_rfl)) (wkH_cons (BkN.plain (cs:=rws (mdL s k)) (b:=.r 42 258 3) (by kernel_rfl) (by rw[mdL_t hcnd]) (plain_rws _) (by kernel_rfl)) trivial))));exact (L11 p s hs m (k+1) (by omega) (by omega) K hK))
   |(have hcnd:(!zeroT (tM s k))=true:=(by with_reducible assumption);(with_reducible refine RoundTo.reN 8 [(3,some 6)] (I11 p s (k+1)) ?_ ?_ ?_ ?_);kernel_rfl;exact (wkER_cons (LeR.of (by kernel_rfl)) (wkER_cons (LeR.of (by kernel_rfl)) (wkER_cons (LeR.of (by kernel_rfl)) (wkER_cons (LeR.of (by kernel_rfl)) trivial))));exact (wkHR_cons (j:=0) rfl (BkM.fix (cs:=qls p s) (b:=.q) (by kernel_rfl) (rfl) (fix_qls p s) (by kernel_rfl)) (wkHR_cons (j:=1) rfl (BkM.blk (k:=⟨[.v (.slice none 0 0)],.t 26⟩) (k'':=⟨[.v (.slice none 0 0)],.t 26⟩) (by kernel_rfl) (by kernel_rfl) rfl) (wkHR_cons (j:=2) rfl (BkM.blk (k:=⟨[.o 6 ((mdL s k).length+1)],.t 26⟩) (k'':=⟨[.o 3 ((mdL s k).length+1)],.t 26⟩) (by kernel_rfl) (by kernel_rfl) (by rw[(mdL_f hcnd).2])) (wkHR_cons (j:=6) rfl (BkM.plain (cs:=rws (mdL s k)++el ⟨pX s k,pY k,tM s k⟩) (b:=.r 42 258 6) (by kernel_rfl) ((mdL_f hcnd).1) (plain_rws _) (by kernel_rfl)) trivial))));exact (L11 p s hs m (k+1) (by omega) (by omega) K hK))
end Ab
end Go.Proofs.YtpdckpifhniioaaGreat
end
section
set_option linter.unusedVariables false
set_option linter.unusedSimpArgs false
namespace Go.Proofs.YtpdckpifhniioaaGreat
open Go.RowKit
namespace Ab
attribute [local irreducible] tl sameT zeroT rws mdT tM pX pY mdL
theorem enters11:Enters Tryz.prog 11:=fun args w=>by go_simp
def cz_C11 (p:Nat) (s:List Int):Cz:={
 ct:=(fun f=>match f with
 |14=>some fun _ _S ar=>match ar with | [.c (.l (.v (.int _ x))),.c (.l (.v (.int _ n)))]=>some {v:=iv .i64 (rst x n),rd:=[],wr:=[],nw:=0}|_=>none
 |44=>some fun _ _S ar=>match ar with | [.c (.agg l)]=>some {v:=bv (zeroT (lsB l)),rd:=[],wr:=[],nw:=0}|_=>none
 |_=>none)
 eq:=(fun t=>match t with
 |_=>none)
 raw:=[],sym:=[],nf:=[],ap:=true,off:=[],on:=[],lp:=fun r=>match r with|3=>some (fun _ K=>K (.exit 0) (I11 p s (mdN s)))|_=>none,un:=0,wh:=[26,38,40,96]}
set_option maxRecDepth 100000 in
set_option maxHeartbeats 400000 in
theorem C11 (p:Nat) (s:List Int) (hs:s.length≤20000000000000):CallOK Tryz.prog 11 [.c (.l (.s 0 p s.length))] [(0,⟨qls p s,.q⟩)] 1 (.c (.agg [.o 1 (mdL s (mdN s)).length])) [(1,⟨rws (mdL s (mdN s)),.r 42 258 1⟩)] 1:=by
 refine call_ok (cx:=cz_C11 p s) (nm:=[3]) rfl Tryz.func11 (body:=Tryz.f11.body.getD .skip) rfl enters11 (by unfold inck;simp only[List.all_cons,List.all_nil,blkLt_fix (fix_qls p s) (show (BT.rn (rnId 1 0 []) (.q)).isSome=true from rfl),Bool.and_true,Bool.true_and];kernel_rfl) ?_
 apply of_eq (q:=(LoopOK Tryz.prog ((getLoop 3 (Tryz.f11.body.getD .skip)).getD .skip) (St.mk [(4,iv IntKind.i64 0),(3,SV.c (Cp.l (Leaf.p 2 0))),(2,SV.c (Cp.l (Leaf.p 1 0))),(0,SV.c (Cp.l (Leaf.s 0 p s.length)))] [(2,some (Blk.mk [Leaf.v (Value.slice none 0 0)] (BT.t 26))),(1,some (Blk.mk [Leaf.v (Value.slice none 0 0)] (BT.t 26))),(0,some (Blk.mk (qls p s) BT.q))] 3 57 [2,1] 1) fun K=>K (Exit.exit 0) (I11 p s (mdN s)))∧0=0∧1=1∧Le (ag [Leaf.o 1 (mdL s (mdN s)).length]) (ag [Leaf.o 1 (mdL s (mdN s)).length])∧BkR (rnId 1 0 [3]) (Blk.mk (rws (mdL s (mdN s))) (BT.r 42 258 3)) (Blk.mk (rws (mdL s (mdN s))) (BT.r 42 258 1))∧True) (by kernel_rfl)
 repeat' (first|exact trivial|with_reducible apply And.intro|(with_reducible apply HB.mk)|with_reducible intro _)
 all_goals first
  |(with_reducible exact Le.refl _)
  |(with_reducible rfl)
  |(exact LoopOK.re [(3,none)] (I11 p s 0) (by kernel_rfl) (wkER_cons (LeR.of (by kernel_rfl)) (wkER_cons (LeR.of (by kernel_rfl)) (wkER_cons (LeR.of (by kernel_rfl)) (wkER_cons (LeR.of (by kernel_rfl)) trivial)))) (wkHR_cons (j:=0) rfl (BkM.fix (cs:=qls p s) (b:=.q) (by kernel_rfl) (rfl) (fix_qls p s) (by kernel_rfl)) (wkHR_cons (j:=1) rfl (BkM.blk (k:=⟨[.v (.slice none 0 0)],.t 26⟩) (k'':=⟨[.v (.slice none 0 0)],.t 26⟩) (by kernel_rfl) (by kernel_rfl) rfl) (wkHR_cons (j:=2) rfl (BkM.lsB (xs:=[.v (.slice none 0 0)]) (by kernel_rfl) (LsR.cons (by show LfR _ 4 _ (.o 3 (mdL s 0).length);rw[show (mdL s 0).length=0 by unfold mdL;rfl];exact LfR.nil (show 3<4 by decide) rfl) LsR.nil)) (wkHR_nil rfl trivial)))) (fun K hT=>L11 p s hs _ 0 rfl (Nat.zero_le _) K hT))
  |(exact BkR.plain rfl (plain_rws _) (by kernel_rfl))
end Ab
end Go.Proofs.YtpdckpifhniioaaGreat
end
section
set_option linter.unusedVariables false
namespace Go.Proofs.YtpdckpifhniioaaGreat
open Go.RowKit
namespace Ab
set_option maxRecDepth 100000 in
set_option maxHeartbeats 1000000 in
theorem bstr0 (b:Nat) (p:Value) (w:World) (h1:w.heap[b]? = some (.cells #[p,.slice none 0 0] 101 (0,0))) :
  Calls Tryz.prog 54 #[.pointer (some ⟨b,0,none⟩)] w fun e w'=>e=.returned (.string .empty)∧w'=w.drew:=by
 have c1:w.drew.cell? ⟨b,1,none⟩=some (.slice none 0 0):=by
  have:w.drew.heap[b]? = some (.cells #[p,.slice none 0 0] 101 (0,0)):=h1
  rw[Lib.cell_of_heap this];rfl
 have hSD:(Builtin.unsafeSliceData_ #[57] 171 #[.slice none 0 0]).run Tryz.prog w.drew=.ok (.pointer none) w.drew:=rfl
 have hUS:(Builtin.unsafeString_ #[171,3] 9 #[.pointer none,.int .i64 0]).run Tryz.prog w.drew=.ok (.string .empty) w.drew:=Lib.run_unsafeString_none _ _ _ _ _
 clear h1
 go_enter Tryz.func54,Tryz.ntmps54
 go_wp2
 go_region
 all_goals (go_wp2;go_ret;exact ⟨rfl,rfl⟩)
theorem C54z (id n:Nat) (l0:Leaf) :
  CallOK Tryz.prog 54 [.c (.l (.p id 0))] [(id,⟨[l0,.v (.slice none 0 0)],.e 101⟩)] n (.c (.l (.v (.string .empty)))) [] 0:=by
 refine ⟨enters54,fun β x vals hv hinj hlt hnew hH _=>?_⟩
 match vals,hv with
 |[y],⟨⟨b,hb,hy⟩,_⟩=>
  subst hy
  obtain ⟨y0,y1,h1,d0,d1⟩:=blkE2 (hH id b _ hb (lk_cons_eq _ _ _))
  obtain ⟨d1,_⟩:=d1
  subst d1
  refine (bstr0 b y0 x h1).mono ?_
  rintro e x' ⟨rfl,rfl⟩
  exact ⟨_,β,rfl,done_wr hinj hlt ⟨rfl,rfl⟩ rfl rfl rfl (Nat.le_refl _) (fun k hk hn=>rfl) (fun i c k hi hk=>by cases hk)⟩
theorem CallOKd.nil_o {P:Program} {f:Nat} {dc:List (Nat×Nat×Bool)} {args:List SV} {H:List (Nat×Blk)} {n:Nat} (h:CallOKd P f dc args H n (.c (.agg [.v (.slice none 0 0)])) [] 0) (bk:Blk) :
  CallOKd P f dc args H n (.c (.agg [.o n 0])) [(n,bk)] 1:=by
 refine ⟨h.1,fun β x vals ha hi hl hn hb hd=>(h.2 β x vals ha hi hl (fun id h1 h2=>by omega) hb hd).mono ?_⟩
 rintro e x' ⟨y,β',rfl,D⟩
 have hnn:=hn n (Nat.le_refl _) (by omega)
 have hb0:∀b,β' n≠some b:=fun b hb=>by
  rcases D.new n b hb with h1|⟨_,h1,_⟩
  ·rw[hnn.1] at h1;cases h1
  ·omega
 refine ⟨y,⟨β'.b,fun i=>if i=n then some 0 else β'.c i⟩,rfl,?_,⟨D.ext.b,fun i v hv=>?_⟩,fun i b hb=>?_,fun i v hv=>?_,D.inj,D.lt,D.os,D.tape,D.output,D.size,fun k hk _=>D.keep k hk (fun _ _=>rfl),fun i b k hb hk=>?_⟩
 ·obtain ⟨ys,e1,hd1⟩:=D.den
  refine ⟨ys,e1,?_⟩
  match ys,hd1 with
  |[z],⟨h1,_⟩=>exact ⟨.inl ⟨rfl,if_pos rfl,h1.1⟩,trivial⟩
 ·show (if i=n then some 0 else β'.c i)=some v
  by_cases e1:i=n
  ·subst e1;rw[hnn.2] at hv;cases hv
  ·rw[if_neg e1];exact D.ext.c i v hv
 ·rcases D.new i b hb with h1|⟨h1,h2,h3⟩
  ·exact .inl h1
  ·omega
 ·by_cases e1:i=n
  ·exact .inr (by omega)
  ·have hv:(if i=n then some 0 else β'.c i)=some v:=hv
   rw[if_neg e1] at hv
   rcases D.newc i v hv with h1|⟨h1,h2⟩
   ·exact .inl h1
   ·omega
 ·obtain ⟨rfl,rfl⟩:=lk_one hk
  exact absurd hb (hb0 b)
end Ab
end Go.Proofs.YtpdckpifhniioaaGreat
end
section
set_option linter.unusedVariables false
set_option linter.unusedSimpArgs false
namespace Go.Proofs.YtpdckpifhniioaaGreat
open Go.RowKit
namespace Ab
def cz_C11y (o:Option Addr) (c:Nat):Cz:={
 ct:=(fun f=>match f with
 |_=>none)
 eq:=(fun t=>match t with
 |_=>none)
 raw:=[],sym:=[],nf:=[],ap:=true,off:=[],on:=[],lp:=fun _=>none,un:=3,wh:=[26,38,40,96]}
set_option maxRecDepth 100000 in
set_option maxHeartbeats 400000 in
theorem C11y (o:Option Addr) (c:Nat)  : CallOK Tryz.prog 11 [.c (.l (.v (.slice o 0 c)))] [(0,⟨qls 0 [],.q⟩)] 1 (.c (.agg [.v (.slice none 0 0)])) [] 0:=by
 refine call_ok (cx:=cz_C11y o c) (nm:=[]) rfl Tryz.func11 (body:=Tryz.f11.body.getD .skip) rfl enters11 (by kernel_rfl) ?_
 apply of_eq (q:=(decide (0<(Nat.cast 0:Int))=true→decide (0<(Nat.cast 0:Int))=true∧True)∧(decide (0<(Nat.cast 0:Int))=true→decide (0<(Nat.cast 0:Int))=true)∧0=0∧1=1∧Le (ag [Leaf.v (Value.slice none 0 0)]) (ag [Leaf.v (Value.slice none 0 0)])∧True) (by kernel_rfl)
 repeat' (first|exact trivial|with_reducible apply And.intro|(with_reducible apply HB.mk)|with_reducible intro _)
 all_goals first
  |(assumption)
  |(with_reducible exact Le.refl _)
  |(with_reducible rfl)
theorem C11z (o:Option Addr) (c:Nat):CallOK Tryz.prog 11 [.c (.l (.v (.slice o 0 c)))] [(0,⟨qls 0 [],.q⟩)] 1 (.c (.agg [.o 1 (mdL [] (mdN [])).length])) [(1,⟨rws (mdL [] (mdN [])),.r 42 258 1⟩)] 1:=
 CallOKd.nil_o (C11y o c) _
def B54 (S:St) (i:Nat):Option Cr:=match S.blk i with
 |some ⟨[_,.v (.slice none 0 0)],_⟩=>some ⟨.c (.l (.v (.string .empty))),[i],[],0,[]⟩
 |some ⟨[_,.o bf _],_⟩=>some ⟨V54 S i,[i,bf],[(bf,⟨[],.x⟩)],0,[]⟩
 |_=>none
theorem good_nil:Good []:=mdL_good [] 0 (Nat.zero_le 6)
theorem C46z (l:List TA) (hl:l=[]) (id n:Nat) (hi:id<n):CallOK Tryz.prog 46 [.c (.agg [.o id 0])] [(id,⟨rws l,.r 42 258 id⟩)] n (bv true) [] 0:=by
 subst hl;exact C46g [] good_nil id n hi
attribute [local irreducible] Oct.M.sum hdB blB entB rws
def cz_C12y (l:List TA):Cz:={
 ct:=(fun f=>match f with
 |46=>some fun _ _S ar=>match ar with | [.c (.agg [.o i _])]=>some {v:=bv true,rd:=[i],wr:=[],nw:=0}|_=>none
 |47=>some fun _ap _S ar=>match ar with | [.c (.l (.p i _)),.c (.l (.v (.string s)))]=>B47 _ap _S i s|_=>none
 |48=>some fun _ _S ar=>match ar with | [.c (.l (.v (.int _ k)))]=>some {v:=.c (.l (.v (.string ⟨(Oct.M.leb (Oct.u64 k)).toArray⟩))),rd:=[],wr:=[],nw:=0}|_=>none
 |50=>some fun _ _S ar=>match ar with | [.c (.l (.v (.int _ k))),.c (.l (.v (.int _ m)))]=>some {v:=.c (.l (.v (.string ⟨(Oct.M.be (Oct.sz m) (Oct.u64 k)).toArray⟩))),rd:=[],wr:=[],nw:=0}|_=>none
 |51=>some fun _ _S ar=>match ar with | [.c (.agg [.v (.int _ a),.v (.int _ b),.v (.int _ c),.v (.int _ e)])]=>some {v:=.c (.l (.v (.string ⟨#[ofI a,ofI b,ofI c,ofI e]⟩))),rd:=[],wr:=[],nw:=0}|_=>none
 |53=>some fun _ _S ar=>match ar with | [.c (.l (.v (.string s)))]=>some {v:=iv .u32 (Oct.M.sum s.data.toList:Nat),rd:=[],wr:=[],nw:=0}|_=>none
 |54=>some fun _ap _S ar=>match ar with | [.c (.l (.p i _))]=>B54 _S i|_=>none
 |55=>some fun _ _S ar=>match ar with | [.c (.l (.v (.string s)))]=>some {v:=.c (.l (.v (.string ⟨(Oct.txt s).toArray⟩))),rd:=[],wr:=[],nw:=0}|_=>none
 |_=>none)
 eq:=(fun t=>match t with
 |_=>none)
 raw:=[],sym:=[],nf:=[(11,bv true),(12,bv false),(16,.c (.l (.v (.string (hdB l 0))))),(57,.c (.l (.v (.string (hdB l 0))))),(59,.c (.l (.v (.string (txtB (hdB l 0)))))),(62,iv .u32 (sumI (hdB l 0))),(63,iv .i64 (sumI (hdB l 0))),(64,.c (.l (.v (.string (putB (sumI (hdB l 0)) 4))))),(66,.c (.l (.v (.string (blB l 0))))),(67,.c (.l (.v (.string (packB l)))))],ap:=true,off:=[],on:=[],lp:=fun _=>none,un:=3,ex:=[101]}
set_option maxRecDepth 100000 in
set_option maxHeartbeats 400000 in
theorem C12y (l:List TA) (hl:l=[]):CallOK Tryz.prog 12 [.c (.agg [.o 0 0])] [(0,⟨rws l,.r 42 258 0⟩)] 1 (.tup [.l (.v (.string (packB l))),.l (li 0)]) [] 0:=by
 have hh:=hdB_le l 0
 have hhp:=hdB_pos l 0
 have hbz:(blB l 0).size=0:=by unfold blB;rfl
 have hl0:l.length=0:=by rw[hl];rfl
 refine call_ok (cx:=cz_C12y l) (nm:=[]) rfl Tryz.func12 (body:=Tryz.f12.body.getD .skip) rfl enters12 (by unfold inck;simp only[List.all_cons,List.all_nil,blt_rws _ _ (show (BT.rn (rnId 1 0 []) (.r 42 258 0)).isSome=true from rfl),Bool.and_true,Bool.true_and];kernel_rfl) ?_
 apply of_eq (q:=CallOKd Tryz.prog 46 [] [ag [Leaf.o 0 0]] [(0,Blk.mk (rws l) (BT.r 42 258 0))] 2 (bv true) [] 0∧Le (bv true) (bv true)∧Le (bv !true) (bv false)∧CallOKd Tryz.prog 48 [] [iv IntKind.i64 (Nat.cast 0:Int)] [] 4 (SV.c (Cp.l (Leaf.v (Value.string (ByteArray.mk (Oct.M.leb (Oct.u64 (Nat.cast 0:Int))).toArray))))) [] 0∧Le (SV.c (Cp.l (Leaf.v (Value.string (ByteArray.mk (Oct.M.leb (Oct.u64 (Nat.cast 0:Int))).toArray))))) (SV.c (Cp.l (Leaf.v (Value.string (hdB l 0)))))∧CallOKd Tryz.prog 47 [] [SV.c (Cp.l (Leaf.p 2 0)),SV.c (Cp.l (Leaf.v (Value.string (hdB l 0))))] [(2,Blk.mk [Leaf.v (Value.pointer none),Leaf.v (Value.slice none 0 0)] (BT.e 101))] 4 (SV.tup [Cp.l (li (Nat.cast ((hdB l 0).size):Int)),Cp.l (Leaf.v Value.nilIface)]) [(2,Blk.mk [Leaf.p 2 0,Leaf.o 4 (hdB l 0).size] (BT.e 101)),(4,Blk.mk (sbytes (hdB l 0)) (BT.r 5 1 4))] 1∧CallOKd Tryz.prog 54 [] [SV.c (Cp.l (Leaf.p 2 0))] [(2,Blk.mk [Leaf.p 2 0,Leaf.o 4 (hdB l 0).size] (BT.e 101)),(4,Blk.mk (sbytes (hdB l 0)) (BT.r 5 1 4))] 5 (SV.c (Cp.l (Leaf.v (Value.string (strL (sbytes (hdB l 0))))))) [(4,Blk.mk [] BT.x)] 0∧Le (SV.c (Cp.l (Leaf.v (Value.string (strL (sbytes (hdB l 0))))))) (SV.c (Cp.l (Leaf.v (Value.string (hdB l 0)))))∧CallOKd Tryz.prog 55 [] [SV.c (Cp.l (Leaf.v (Value.string (hdB l 0))))] [] 5 (SV.c (Cp.l (Leaf.v (Value.string (ByteArray.mk (Oct.txt (hdB l 0)).toArray))))) [] 0∧Le (SV.c (Cp.l (Leaf.v (Value.string (ByteArray.mk (Oct.txt (hdB l 0)).toArray))))) (SV.c (Cp.l (Leaf.v (Value.string (txtB (hdB l 0))))))∧(Nat.cast (((ByteArray.mk #[71,1]).size+(txtB (hdB l 0)).size)):Int)≤IntKind.i64.max∧CallOKd Tryz.prog 53 [] [SV.c (Cp.l (Leaf.v (Value.string (hdB l 0))))] [] 5 (iv IntKind.u32 (Nat.cast ((Oct.M.sum (hdB l 0).data.toList)):Int)) [] 0∧Le (iv IntKind.u32 (Nat.cast ((Oct.M.sum (hdB l 0).data.toList)):Int)) (iv IntKind.u32 (sumI (hdB l 0)))∧Le (iv IntKind.i64 (IntKind.i64.wrap (sumI (hdB l 0)))) (iv IntKind.i64 (sumI (hdB l 0)))∧CallOKd Tryz.prog 50 [] [iv IntKind.i64 (sumI (hdB l 0)),iv IntKind.i64 4] [] 5 (SV.c (Cp.l (Leaf.v (Value.string (ByteArray.mk (Oct.M.be (Oct.sz 4) (Oct.u64 (sumI (hdB l 0)))).toArray))))) [] 0∧Le (SV.c (Cp.l (Leaf.v (Value.string (ByteArray.mk (Oct.M.be (Oct.sz 4) (Oct.u64 (sumI (hdB l 0)))).toArray))))) (SV.c (Cp.l (Leaf.v (Value.string (putB (sumI (hdB l 0)) 4)))))∧(Nat.cast (((ByteArray.mk #[71,1]++txtB (hdB l 0)).size+(putB (sumI (hdB l 0)) 4).size)):Int)≤IntKind.i64.max∧CallOKd Tryz.prog 54 [] [SV.c (Cp.l (Leaf.p 3 0))] [(3,Blk.mk [Leaf.v (Value.pointer none),Leaf.v (Value.slice none 0 0)] (BT.e 101))] 5 (SV.c (Cp.l (Leaf.v (Value.string ByteArray.empty)))) [] 0∧Le (SV.c (Cp.l (Leaf.v (Value.string ByteArray.empty)))) (SV.c (Cp.l (Leaf.v (Value.string (blB l 0)))))∧(Nat.cast (((ByteArray.mk #[71,1]++txtB (hdB l 0)++putB (sumI (hdB l 0)) 4).size+(blB l 0).size)):Int)≤IntKind.i64.max∧Le (SV.c (Cp.l (Leaf.v (Value.string (ByteArray.mk #[71,1]++txtB (hdB l 0)++putB (sumI (hdB l 0)) 4++blB l 0))))) (SV.c (Cp.l (Leaf.v (Value.string (packB l)))))∧Le (SV.tup [Cp.l (Leaf.v (Value.string (packB l))),Cp.l (li 0)]) (SV.tup [Cp.l (Leaf.v (Value.string (packB l))),Cp.l (li 0)])∧True) (by kernel_rfl)
 repeat' (first|exact trivial|with_reducible apply And.intro|(with_reducible apply HB.mk)|with_reducible intro _)
 all_goals first
  |(with_reducible exact Le.refl _)
  |((with_reducible exact C46z l hl _ _ (by omega)))
  |((first|with_reducible refine C47ag _ ?_ ?_ _ _ ?_|with_reducible refine C47tg _ _ _ ?_ ?_ ?_ ?_ _ _ _ ?_ ?_ ?_|with_reducible refine C47fg _ _ _ ?_ ?_ ?_ ?_ _ _ _ ?_ ?_ ?_)<;>first|exact plain_sbytes _|(rw[sbytes_len];done)|omega)
  |(with_reducible exact C48 _ _)
  |(with_reducible exact C50 _ _ _)
  |((first|exact C54z _ _ _|with_reducible refine C54 _ _ _ _ _ _ ?_ ?_ ?_ ?_ ?_)<;>first|(rw[sbytes_len];done)|exact allB_sbytes _|omega)
  |(exact Le.of (by rw[strL_sbytes]))
  |(((with_reducible refine C55 _ ?_ _);omega))
  |(((with_reducible refine C53 _ ?_ _);omega))
  |(exact Le.of (by unfold hdB;rw[hl0];rfl))
  |(exact Le.of (by unfold packB;rw[hl0]))
  |(exact Le.of (by unfold blB;rfl))
  |(exact Le.of rfl)
  |((refine Le.int ?_;rw[IntKind.wrap_i64];have:=sumI_bd (hdB l 0);omega))
  |((rw[IntKind.max_i64];have:=txtB_le (hdB l 0) (by omega);(try simp only[ByteArray.size_append,putB_sz,sz2,sz4]);have e0:(⟨#[71,1]⟩:ByteArray).size=2:=rfl;omega))
  |(exact Le.of rfl)
end Ab
end Go.Proofs.YtpdckpifhniioaaGreat
end
