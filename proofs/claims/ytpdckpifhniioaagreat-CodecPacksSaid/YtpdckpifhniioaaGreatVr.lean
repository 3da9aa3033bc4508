/- Part 18 of what CodecPacks rests on. -/
import Derived.Test.YtpdckpifhniioaaGreatVj
import Derived.Test.YtpdckpifhniioaaGreatVq
section
set_option linter.unusedVariables false
set_option linter.unusedSimpArgs false
namespace Go.Proofs.YtpdckpifhniioaaGreat
open Go.RowKit
namespace Ab
def I161 (a b c e:UInt8) (k:Nat):St:=⟨[(4,iv .i64 (k:Nat)),(1,.c (.l (.p 0 0))),(2,.c (.l (.p 1 0))),(3,.c (.l (.p 2 0)))],[(0,some ⟨[ub a,ub b,ub c,ub e],.t 36⟩),(1,some ⟨tl zT,.t 38⟩),(2,some ⟨tl (upTo k (fillT a b c e) zT),.t 38⟩)],3,14,[2,1,0],(0)⟩
def cz_R161 (a b c e:UInt8) (k:Nat):Cz:={
 ct:=(fun f=>match f with
 |_=>none)
 eq:=(fun t=>match t with
 |_=>none)
 raw:=[],sym:=[0,10,12],nf:=[],ap:=true,off:=[],on:=[],lp:=fun _=>none,un:=0}
set_option maxRecDepth 100000 in
theorem R161 (a b c e:UInt8) (k:Nat)  (K:Exit→St→Prop) (h:HB (decide ((Nat.cast k:Int)<64)) (InR ((Nat.cast k:Int)) 64∧0+((Nat.cast k:Int)).toNat*4+4≤256∧IntKind.i64.wrap ((Nat.cast k:Int)+1)=(Nat.cast k:Int)+1∧RoundTo Tryz.prog ((getLoop 3 (Tryz.f161.body.getD Code.skip)).getD Code.skip) 3 (wkK 3 K) (St.mk [(1,SV.c (Cp.l (Leaf.p 0 0))),(2,SV.c (Cp.l (Leaf.p 1 0))),(3,SV.c (Cp.l (Leaf.p 2 0))),(4,iv IntKind.i64 ((Nat.cast k:Int)+1))] [(0,some (Blk.mk [Leaf.v (Value.int IntKind.u8 (Nat.cast a.toNat:Int)),Leaf.v (Value.int IntKind.u8 (Nat.cast b.toNat:Int)),Leaf.v (Value.int IntKind.u8 (Nat.cast c.toNat:Int)),Leaf.v (Value.int IntKind.u8 (Nat.cast e.toNat:Int))] (BT.t 36))),(1,some (Blk.mk (tl zT) (BT.t 38))),(2,some (Blk.mk (splice (tl (upTo k (fillT a b c e) zT)) (0+((Nat.cast k:Int)).toNat*4) [Leaf.v (Value.int IntKind.u8 (Nat.cast a.toNat:Int)),Leaf.v (Value.int IntKind.u8 (Nat.cast b.toNat:Int)),Leaf.v (Value.int IntKind.u8 (Nat.cast c.toNat:Int)),Leaf.v (Value.int IntKind.u8 (Nat.cast e.toNat:Int))]) (BT.t 38)))] 3 14 [2,2,1,0] 0)) (wkK 3 K (Exit.exit 0) (St.mk [(1,SV.c (Cp.l (Leaf.p 0 0))),(2,SV.c (Cp.l (Leaf.p 1 0))),(3,SV.c (Cp.l (Leaf.p 2 0))),(4,iv IntKind.i64 (Nat.cast k:Int))] [(0,some (Blk.mk [Leaf.v (Value.int IntKind.u8 (Nat.cast a.toNat:Int)),Leaf.v (Value.int IntKind.u8 (Nat.cast b.toNat:Int)),Leaf.v (Value.int IntKind.u8 (Nat.cast c.toNat:Int)),Leaf.v (Value.int IntKind.u8 (Nat.cast e.toNat:Int))] (BT.t 36))),(1,some (Blk.mk (tl zT) (BT.t 38))),(2,some (Blk.mk (tl (upTo k (fillT a b c e) zT)) (BT.t 38)))] 3 14 [2,1,0] 0))):WPL Tryz.prog ((getLoop 3 (Tryz.f161.body.getD .skip)).getD .skip) (I161 a b c e k) (wkK 3 K):=
 wp_roundT [1,2,3,4] [0,1,2] (cx:=cz_R161 a b c e k) rfl (of_eq (by kernel_rfl) h)
set_option maxRecDepth 100000 in
set_option maxHeartbeats 4000000 in
theorem L161 (a b c e:UInt8)  : ∀(m k:Nat),64-k=m→k≤64→∀(K:Exit→St→Prop),K (.exit 0) (I161 a b c e 64)→WPL Tryz.prog ((getLoop 3 (Tryz.f161.body.getD .skip)).getD .skip) (I161 a b c e k) (wkK 3 K)
 |0,k,hm,hk,K,hK=>by
  have e:k=64:=by omega
  subst e
  refine R161 a b c e _ K (HB.mk (fun hne=>absurd (of_decide_eq_true hne) (by omega)) (fun he=>?_))
  exact wkK.to (I161 a b c e _) (Nat.le_refl _) (by kernel_rfl) (wkE_cons (LeN.sl (by kernel_rfl) rfl) (wkE_cons (LeN.sl (by kernel_rfl) rfl) (wkE_cons (LeN.sl (by kernel_rfl) rfl) (wkE_cons (LeN.sl (by kernel_rfl) rfl) trivial)))) (wkH_cons (BkN.blk (k:=⟨[ub a,ub b,ub c,ub e],.t 36⟩) (by kernel_rfl) (rfl) (by kernel_rfl)) (wkH_cons (BkN.plain (cs:=tl zT) (b:=.t 38) (by kernel_rfl) (rfl) (plain_tl _) (by kernel_rfl)) (wkH_cons (BkN.plain (cs:=tl (upTo 64 (fillT a b c e) zT)) (b:=.t 38) (by kernel_rfl) (rfl) (plain_tl _) (by kernel_rfl)) trivial))) hK
 |m+1,k,hm,hk,K,hK=>by
  refine R161 a b c e k K (HB.mk (fun hne=>?_) (fun he=>absurd (show ((k:Nat):Int)<(64:Nat) by omega) (of_decide_eq_false he)))
  have hlt:k<64:=by omega
  repeat' (first|exact trivial|with_reducible apply And.intro|(with_reducible apply HB.mk)|with_reducible intro _)
  all_goals first
   |(exact ⟨by omega,by omega⟩)
   |(omega)
   |((with_reducible refine RoundTo.toN 3 (I161 a b c e (k+1)) ?_ ?_ ?_ ?_ ?_);exact Nat.le_refl _;kernel_rfl;exact (wkE_cons (LeN.sl (by kernel_rfl) rfl) (wkE_cons (LeN.sl (by kernel_rfl) rfl) (wkE_cons (LeN.sl (by kernel_rfl) rfl) (wkE_cons (LeN.sl (by kernel_rfl) rfl) trivial))));exact (wkH_cons (BkN.blk (k:=⟨[ub a,ub b,ub c,ub e],.t 36⟩) (by kernel_rfl) (rfl) (by kernel_rfl)) (wkH_cons (BkN.plain (cs:=tl zT) (b:=.t 38) (by kernel_rfl) (rfl) (plain_tl _) (by kernel_rfl)) (wkH_cons (BkN.plain (cs:=splice (tl (upTo k (fillT a b c e) zT)) (0+k*4) [ub a,ub b,ub c,ub e]) (b:=.t 38) (by kernel_rfl) (by rw[Nat.zero_add,fill_px a b c e k,upTo_set k _ _ hlt]) (plain_tl _) (by kernel_rfl)) trivial)));exact (L161 a b c e  m (k+1) (by omega) (by omega) K hK))
   |(exact okw _ (by omega) (by omega))
theorem enters161:Enters Tryz.prog 161:=fun args w=>by go_simp
def cz_C161 (a b c e:UInt8):Cz:={
 ct:=(fun f=>match f with
 |_=>none)
 eq:=(fun t=>match t with
 |_=>none)
 raw:=[],sym:=[],nf:=[(13,.c (.agg (tl (fillT a b c e))))],ap:=true,off:=[],on:=[],lp:=fun r=>match r with|3=>some (fun _ K=>K (.exit 0) (I161 a b c e 64))|_=>none,un:=0,wh:=[38]}
set_option maxRecDepth 100000 in
set_option maxHeartbeats 400000 in
theorem C161 (a b c e:UInt8)  (n:Nat):CallOK Tryz.prog 161 [ag [ub a,ub b,ub c,ub e]] [] n (.c (.agg (tl (fillT a b c e)))) [] 0:=by
 refine CallOK.any ?_ (by kernel_rfl) (by kernel_rfl) n
 refine call_ok (cx:=cz_C161 a b c e) (nm:=[]) rfl Tryz.func161 (body:=Tryz.f161.body.getD .skip) rfl enters161 (by kernel_rfl) ?_
 apply of_eq (q:=0=0∧256=256∧(LoopOK Tryz.prog ((getLoop 3 (Tryz.f161.body.getD .skip)).getD .skip) (St.mk [(4,iv IntKind.i64 0),(3,SV.c (Cp.l (Leaf.p 2 0))),(5,ag zT256),(2,SV.c (Cp.l (Leaf.p 1 0))),(1,SV.c (Cp.l (Leaf.p 0 0))),(0,ag [Leaf.v (Value.int IntKind.u8 (Nat.cast a.toNat:Int)),Leaf.v (Value.int IntKind.u8 (Nat.cast b.toNat:Int)),Leaf.v (Value.int IntKind.u8 (Nat.cast c.toNat:Int)),Leaf.v (Value.int IntKind.u8 (Nat.cast e.toNat:Int))])] [(2,some (Blk.mk zT256 (BT.t 38))),(2,some (Blk.mk zT256 (BT.t 38))),(1,some (Blk.mk zT256 (BT.t 38))),(0,some (Blk.mk [Leaf.v (Value.int IntKind.u8 (Nat.cast a.toNat:Int)),Leaf.v (Value.int IntKind.u8 (Nat.cast b.toNat:Int)),Leaf.v (Value.int IntKind.u8 (Nat.cast c.toNat:Int)),Leaf.v (Value.int IntKind.u8 (Nat.cast e.toNat:Int))] (BT.t 36)))] 3 14 [2,2,1,0] 0) fun K=>K (Exit.exit 0) (I161 a b c e 64))∧Le (ag (List.take 256 (tl (upTo 64 (fillT a b c e) zT)))) (ag (tl (fillT a b c e)))∧0=0∧256=256∧Le (ag (tl (fillT a b c e))) (ag (tl (fillT a b c e)))∧True) (by kernel_rfl)
 repeat' (first|exact trivial|with_reducible apply And.intro|(with_reducible apply HB.mk)|with_reducible intro _)
 all_goals first
  |(with_reducible rfl)
  |(exact LoopOK.mk (I161 a b c e 0) rfl (by kernel_rfl) (wkE_cons (LeN.sl (by kernel_rfl) rfl) (wkE_cons (LeN.sl (by kernel_rfl) rfl) (wkE_cons (LeN.sl (by kernel_rfl) rfl) (wkE_cons (LeN.sl (by kernel_rfl) rfl) trivial)))) (wkH_cons (BkN.blk (k:=⟨[ub a,ub b,ub c,ub e],.t 36⟩) (by kernel_rfl) (rfl) (by kernel_rfl)) (wkH_cons (BkN.plain (cs:=zT256) (b:=.t 38) (by kernel_rfl) (zT256_eq) (plain_tl _) (by kernel_rfl)) (wkH_cons (BkN.plain (cs:=zT256) (b:=.t 38) (by kernel_rfl) (by rw[upTo_none];exact zT256_eq) (plain_tl _) (by kernel_rfl)) trivial))) (fun K hT=>L161 a b c e  _ 0 rfl (by first|decide|omega) K hT))
  |(refine Le.of ?_;rw[upTo_all,tl_take])
  |(exact Le.of (by kernel_rfl))
theorem C161I (a b c e:UInt8) (n:Nat):CallOK Tryz.prog 161 [ag [ub a,ub b,ub c,ub e]] [] n (.c (.agg (tl (fillT (ofI (a.toNat:Nat)) (ofI (b.toNat:Nat)) (ofI (c.toNat:Nat)) (ofI (e.toNat:Nat)))))) [] 0:=by
 rw[ofI_nat,ofI_nat,ofI_nat,ofI_nat];exact C161 a b c e n
end Ab
end Go.Proofs.YtpdckpifhniioaaGreat
end
section
set_option linter.unusedVariables false
set_option linter.unusedSimpArgs false
namespace Go.Proofs.YtpdckpifhniioaaGreat
open Go.RowKit
namespace Ab
def IntsAt (x:Leaf) (p:Nat) (s:List Int):Prop:=s.length≤20000000000000∧(x=.s 0 p s.length∨(s=[]∧p=0∧∃o c,x=.v (.slice o 0 c)))
theorem IntsAt.lt {x:Leaf} {p:Nat} {s:List Int} (h:IntsAt x p s):ltN 1 (.c (.l x))=true:=by
 rcases h.2 with rfl|⟨_,_,o,c,rfl⟩<;>rfl
theorem ints_call {P:Program} {f:Nat} {pre post:List SV} {vp vq:List Value} (ha:pls pre=some vp) (hb:pls post=some vq)
  (h:∀x p s,IntsAt x p s→CallOK P f (pre++.c (.l x)::post) [(0,⟨qls p s,.q⟩)] 1 (bv true) [] 0)
  (o:Option Addr) (zs:List Int) (n c:Nat) (w:World) (w0:n*8≤140737488351232) (hn:zs.length=n) (hcap:n≤c)
  (hc:∀i (h:i<zs.length),∃a,o=some a∧a.block<w.heap.size∧w.cell? (a.add i)=some (.int .i64 zs[i])) :
  Calls P f (vp++.slice o n c::vq).toArray w fun e w'=>e=.returned (.bool true)∧Below w.heap.size w w':=by
 have fin:∀(β:Bt) (x:Leaf) (p:Nat) (s:List Int),IntsAt x p s→x.den β (.slice o n c)→(∀i j b,β i=some b→β j=some b→i=j)→(∀i b,β i=some b→b<w.heap.size)→(∀i,1≤i→β i=none∧β.c i=none)→(∀b,β 0=some b→BlkAt β w b ⟨qls p s,.q⟩)→
   Calls P f (vp++.slice o n c::vq).toArray w fun e w'=>e=.returned (.bool true)∧Below w.heap.size w w':=by
  intro β x p s hx hd hinj hlt hno hbk
  have hden:All2 (SV.den β) (pre++.c (.l x)::post) (vp++.slice o n c::vq):=((pls_iff ha β vp).2 rfl).append ⟨hd,(pls_iff hb β vq).2 rfl⟩
  refine ((h x p s hx).2 β w _ hden hinj hlt (fun id h1 _=>hno id h1) (fun id b k hb hk=>?_) (fun _ h=>by cases h)).mono ?_
  ·cases id with
   |zero=>
    have:k=⟨qls p s,.q⟩:=by
     have e:lk [(0,(⟨qls p s,.q⟩:Blk))] 0=some ⟨qls p s,.q⟩:=lk_cons_eq _ _ _
     rw[e] at hk;exact (Option.some.inj hk).symm
    subst this;exact hbk b hb
   |succ i=>rw[(hno (i+1) (by omega)).1] at hb;cases hb
  ·rintro e x' ⟨z,β',rfl,hD⟩
   refine ⟨by rw[(SV.pl_iff (x:=bv true) (y:=.bool true) rfl β' z).1 hD.den],hD.os,hD.tape,hD.output,hD.size,fun k hk=>hD.keep k hk fun id _=>rfl⟩
 cases zs with
 |nil=>
  have hn0:n=0:=by simpa using hn.symm
  subst hn0
  exact fin ⟨fun _=>none,fun _=>none⟩ (.v (.slice o 0 c)) 0 [] ⟨by simp,.inr ⟨rfl,rfl,o,c,rfl⟩⟩ ⟨rfl,rfl⟩ (fun _ _ _ h=>by cases h) (fun _ _ h=>by cases h) (fun _ _=>⟨rfl,rfl⟩) (fun _ h=>by cases h)
 |cons z zs=>
  obtain ⟨a,rfl,hal,ha0⟩:=hc 0 (by simp)
  obtain ⟨b,off,sp⟩:=a
  have hsp:sp=none:=by
   cases sp with
   |none=>rfl
   |some q=>
    have:=ha0
    unfold World.cell? at this
    simp only[Addr.add] at this
    split at this<;>simp at this
  subst hsp
  refine fin ⟨fun i=>if i=0 then some b else none,fun _=>none⟩ (.s 0 off (z::zs).length) off (z::zs) ⟨by omega,.inl rfl⟩ ⟨b,c,rfl,by omega,by rw[hn]⟩ (fun i j b' h1 h2=>?_) (fun i b' h1=>?_) (fun i hi=>⟨if_neg (by omega),rfl⟩) (fun b' hb'=>?_)
  ·by_cases e1:i=0
   ·by_cases e2:j=0
    ·omega
    ·simp[e2] at h2
   ·simp[e1] at h1
  ·by_cases e1:i=0
   ·simp[e1] at h1;subst h1;exact hal
   ·simp[e1] at h1
  ·have:b'=b:=by simpa using hb'.symm
   subst this
   refine .inl (.inr ⟨rfl,fun i l hl=>?_⟩)
   have hl':(qls off (z::zs))[i]? = some l:=hl
   by_cases hi:i<off
   ·left
    unfold qls at hl'
    rw[List.getElem?_append_left (by simpa using hi),List.getElem?_replicate_of_lt hi] at hl'
    exact (Option.some.inj hl').symm
   ·right
    unfold qls at hl'
    rw[List.getElem?_append_right (by simpa using (by omega:off≤i)),List.length_replicate,List.getElem?_map] at hl'
    obtain ⟨y,hy,rfl⟩:=Option.map_eq_some_iff.1 hl'
    obtain ⟨hy1,hy2⟩:=List.getElem?_eq_some_iff.1 hy
    obtain ⟨a,e,_,hcell⟩:=hc (i-off) hy1
    obtain rfl:=Option.some.inj e
    refine ⟨.int .i64 y,?_,rfl,rfl⟩
    have e2:off+(i-off)=i:=by omega
    have e3:(⟨b',off,none⟩:Addr).add (i-off)=⟨b',i,none⟩:=by
     by_cases e0:i-off=0
     ·have:off=i:=by omega
      subst this
      rw[e0];rfl
     ·simp only[Addr.add,if_neg e0,e2]
    rw[e3] at hcell
    rw[hcell,hy2]
theorem made_any {x:Leaf} {p:Nat} {s:List Int} (h:IntsAt x p s) (n:Nat) (hn:0<n):CallOK Tryz.prog 11 [.c (.l x)] [(0,⟨qls p s,.q⟩)] n (.c (.agg [.o n (mdL s (mdN s)).length])) [(n,⟨rws (mdL s (mdN s)),.r 42 258 n⟩)] 1:=by
 have e1:∀σ,(qls p s).map (Leaf.ren σ)=qls p s:=(fix_qls p s).2
 have e2:=ren_plain (σ:=up1 0 n) (plain_rws (mdL s (mdN s)))
 rcases h.2 with rfl|⟨rfl,rfl,o,c,rfl⟩
 ·have key:=CallOK.at1 (C11 p s h.1) 0 n hn
  simp only[List.map_cons,List.map_nil,Blk.ren,SV.ren,Cp.ren,Leaf.ren,BT.ren,e1,e2] at key
  exact key
 ·have key:=CallOK.at1 (C11z o c) 0 n hn
  simp only[List.map_cons,List.map_nil,Blk.ren,SV.ren,Cp.ren,Leaf.ren,BT.ren,e1,e2] at key
  exact key
theorem pack_any (l:List TA) (hg:Good l) (id n:Nat) (hi:id<n):CallOK Tryz.prog 12 [.c (.agg [.o id l.length])] [(id,⟨rws l,.r 42 258 id⟩)] n (.tup [.l (.v (.string (packB l))),.l (li 0)]) [] 0:=by
 have e1:=ren_plain (σ:=up1 id n) (plain_rws l)
 by_cases hl:l=[]
 ·subst hl
  have key:=CallOK.at1 (C12y [] rfl) id n hi
  simp only[List.map_cons,List.map_nil,Blk.ren,SV.ren,Cp.ren,Leaf.ren,BT.ren,e1] at key
  exact key
 ·have key:=CallOK.at1 (C12 l hg (List.length_pos_iff.2 hl)) id n hi
  simp only[List.map_cons,List.map_nil,Blk.ren,SV.ren,Cp.ren,Leaf.ren,BT.ren,e1] at key
  exact key
theorem made_good (s:List Int):Good (mdL s (mdN s)):=mdL_good s _ (Nat.min_le_right _ _)
theorem made_len (s:List Int):(mdL s (mdN s)).length≤6:=Nat.le_trans (mdL_len s _) (Nat.min_le_right _ _)
end Ab
end Go.Proofs.YtpdckpifhniioaaGreat
end
section
set_option linter.unusedVariables false
set_option linter.unusedSimpArgs false
namespace Go.Proofs.YtpdckpifhniioaaGreat
open Go.RowKit
namespace Ab
attribute [local irreducible] CallOKd
structure EN where
 X:Int
 Y:Int
 a:UInt8
 b:UInt8
 c:UInt8
 d:UInt8
 sum:Int
 blob:ByteArray
def en (e:EN):List Leaf:=[li e.X,li e.Y,ub e.a,ub e.b,ub e.c,ub e.d,li e.sum,.v (.string e.blob)]
def ens (l:List EN):List Leaf:=(l.map en).flatten
theorem plain_en (e:EN):Plain (en e):=fun x hx=>by
 simp only[en,List.mem_cons,List.not_mem_nil,or_false] at hx
 rcases hx with rfl|rfl|rfl|rfl|rfl|rfl|rfl|rfl<;>exact ⟨_,rfl⟩
theorem plain_ens (l:List EN):Plain (ens l):=fun x hx=>by
 simp only[ens,List.mem_flatten,List.mem_map] at hx
 obtain ⟨m,⟨e,_,rfl⟩,hx⟩:=hx
 exact plain_en e x hx
theorem ens_len:∀l:List EN,(ens l).length=8*l.length
 |[]=>rfl
 |e::l=>by
  have:=ens_len l
  simp only[ens,List.map_cons,List.flatten_cons,List.length_append,List.length_cons] at *
  show 8+_=_
  omega
def EN.z:EN:=⟨0,0,0,0,0,0,0,ByteArray.empty⟩
def ea (l:List EN) (k:Nat):EN:=l.getD k EN.z
theorem ens_drop:∀(l:List EN) (k:Nat),k<l.length→∃m,(ens l).drop (k*8)=en (ea l k)++m
 |[],k,h=>by simp at h
 |e::l,0,h=>⟨ens l,by simp[ens,ea]⟩
 |e::l,k+1,h=>by
  obtain ⟨m,hm⟩:=ens_drop l k (by simpa using h)
  refine ⟨m,?_⟩
  have:(ens (e::l)).drop ((k+1)*8)=(ens l).drop (k*8):=by
   simp only[ens,List.map_cons,List.flatten_cons]
   rw[List.drop_append,List.drop_eq_nil_of_le (by show 8≤_;omega),List.nil_append,show (en e).length=8 from rfl,show (k+1)*8-8=k*8 by omega]
  rw[this,hm]
  rfl
theorem ens_at {l:List EN} {k:Nat} (h:k<l.length):List.take 8 (List.drop (k*8) (ens l))=en (ea l k):=by
 obtain ⟨m,hm⟩:=ens_drop l k h
 rw[hm];rfl
end Ab
end Go.Proofs.YtpdckpifhniioaaGreat
end
section
set_option linter.unusedVariables false
set_option linter.unusedSimpArgs false
namespace Go.Proofs.YtpdckpifhniioaaGreat
open Go.RowKit
namespace Ab
attribute [local irreducible] CallOKd
theorem LeR.nilS {l:List (Nat×Option Nat)} {S:St} {n t i:Nat} (h:S.sl t=.c (.l (.v (.slice none 0 0)))) (hi:i<n) (hs:sg l i=none):LeR l n (S.sl t) (.c (.l (.o i 0))):=by
 rw[h];exact fun β y hd=>LfR.nil hi hs β y hd
theorem enters62:Enters Tryz.prog 62:=fun args w=>by go_simp
end Ab
end Go.Proofs.YtpdckpifhniioaaGreat
end
section
set_option linter.unusedVariables false
set_option linter.unusedSimpArgs false
namespace Go.Proofs.YtpdckpifhniioaaGreat
open Go.RowKit
namespace Ab
attribute [local irreducible] CallOKd
attribute [local irreducible] Oct.M.sum
theorem enters15:Enters Tryz.prog 15:=fun args w=>by go_simp
end Ab
end Go.Proofs.YtpdckpifhniioaaGreat
end
section
set_option linter.unusedVariables false
set_option linter.unusedSimpArgs false
namespace Go.Proofs.YtpdckpifhniioaaGreat
open Go.RowKit
namespace Ab
def quadE (e:EN):ByteArray:=⟨#[e.a,e.b,e.c,e.d]⟩
def entW (e:EN):ByteArray:=putB (e.X+8192) 2++putB (e.Y+8192) 2++quadE e++varB e.blob.size++putB e.sum 4
def hdW (L:List EN):Nat→ByteArray
 |0=>varB L.length
 |k+1=>hdW L k++entW (ea L k)
def blW (L:List EN):Nat→ByteArray
 |0=>⟨#[]⟩
 |k+1=>blW L k++(ea L k).blob
def writeB (L:List EN):ByteArray:=⟨#[71,1]⟩++txtB (hdW L L.length)++putB (sumI (hdW L L.length)) 4++blW L L.length
structure GoodE (L:List EN):Prop where
 len:L.length≤1024
 x:∀k,k<L.length→-8192≤(ea L k).X∧(ea L k).X≤8191
 y:∀k,k<L.length→-8192≤(ea L k).Y∧(ea L k).Y≤8191
 s:∀k,k<L.length→0≤(ea L k).sum∧(ea L k).sum<4294967296
 b:∀k,k<L.length→1≤(ea L k).blob.size∧(ea L k).blob.size≤257
 ord:∀k,k+1<L.length→(ea L k).Y<(ea L (k+1)).Y∨((ea L k).Y=(ea L (k+1)).Y∧(ea L k).X<(ea L (k+1)).X)
section
variable {L:List EN} (g:GoodE L)
include g
end
end Ab
end Go.Proofs.YtpdckpifhniioaaGreat
end
section
set_option linter.unusedVariables false
set_option linter.unusedSimpArgs false
namespace Go.Proofs.YtpdckpifhniioaaGreat
open Go.RowKit
namespace Ab
theorem entW_le (e:EN):(entW e).size≤22:=by
 unfold entW
 simp only[ByteArray.size_append,putB_sz,sz2,sz4]
 have h:=varB_le e.blob.size
 have:(quadE e).size=4:=rfl
 omega
theorem hdW_le (L:List EN):∀k,(hdW L k).size≤10+22*k
 |0=>varB_le _
 |k+1=>by
  show (hdW L k++entW (ea L k)).size≤_
  rw[ByteArray.size_append]
  have:=hdW_le L k
  have:=entW_le (ea L k)
  omega
section
variable {L:List EN} (g:GoodE L)
include g
end
def enO (e:TA):EN:=⟨e.X,e.Y,meanB e.t 0,meanB e.t 1,meanB e.t 2,meanB e.t 3,sumI (blobT e.t),blobT e.t⟩
theorem ea_map {l:List TA} {k:Nat} (h:k<l.length):ea (l.map enO) k=enO (at' l k):=by
 unfold ea at'
 simp[List.getD,h]
theorem hd_eq (l:List TA):∀k,k≤l.length→hdW (l.map enO) k=hdB l k
 |0,_=>by
  show varB ((l.map enO).length:Nat)=varB (l.length:Nat)
  rw[List.length_map]
 |k+1,h=>by
  show hdW (l.map enO) k++entW (ea (l.map enO) k)=hdB l k++entB (at' l k)
  rw[hd_eq l k (by omega),ea_map h];rfl
theorem bl_eq (l:List TA):∀k,k≤l.length→blW (l.map enO) k=blB l k
 |0,_=>rfl
 |k+1,h=>by
  show blW (l.map enO) k++(ea (l.map enO) k).blob=blB l k++blobT (at' l k).t
  rw[bl_eq l k (by omega),ea_map h];rfl
theorem pack_write (l:List TA):packB l=writeB (l.map enO):=by
 unfold packB writeB
 rw[List.length_map,hd_eq l _ (Nat.le_refl _),bl_eq l _ (Nat.le_refl _)]
theorem good_goodE {l:List TA} (g:Good l):GoodE (l.map enO):=by
 refine ⟨by rw[List.length_map];exact g.len,fun k hk=>?_,fun k hk=>?_,fun k hk=>?_,fun k hk=>?_,fun k hk=>?_⟩
 all_goals rw[List.length_map] at hk
 ·rw[ea_map hk];exact ⟨(good_xy g hk).1,(good_xy g hk).2.1⟩
 ·rw[ea_map hk];exact (good_xy g hk).2.2
 ·rw[ea_map hk]
  have:=sumI_bd (blobT (at' l k).t)
  exact ⟨this.1,by show sumI _<_;omega⟩
 ·rw[ea_map hk];exact ⟨blobT_pos _,blobT_le _⟩
 ·rw[ea_map hk,ea_map (by omega)];exact g.ord k hk
end Ab
end Go.Proofs.YtpdckpifhniioaaGreat
end
section
set_option linter.unusedVariables false
set_option linter.unusedSimpArgs false
namespace Go.Proofs.YtpdckpifhniioaaGreat
open Go.RowKit
namespace Ab
attribute [local irreducible] CallOKd
end Ab
end Go.Proofs.YtpdckpifhniioaaGreat
end
section
set_option linter.unusedVariables false
set_option linter.unusedSimpArgs false
namespace Go.Proofs.YtpdckpifhniioaaGreat
open Go.RowKit
namespace Ab
attribute [local irreducible] CallOKd
end Ab
end Go.Proofs.YtpdckpifhniioaaGreat
end
section
set_option linter.unusedVariables false
set_option linter.unusedSimpArgs false
namespace Go.Proofs.YtpdckpifhniioaaGreat
open Go.RowKit
namespace Ab
attribute [local irreducible] CallOKd
end Ab
end Go.Proofs.YtpdckpifhniioaaGreat
end
section
set_option linter.unusedVariables false
set_option linter.unusedSimpArgs false
namespace Go.Proofs.YtpdckpifhniioaaGreat
open Go.RowKit
namespace Ab
attribute [local irreducible] CallOKd
end Ab
end Go.Proofs.YtpdckpifhniioaaGreat
end
section
set_option linter.unusedVariables false
set_option linter.unusedSimpArgs false
namespace Go.Proofs.YtpdckpifhniioaaGreat
open Go.RowKit
namespace Ab
attribute [local irreducible] CallOKd
theorem enters25:Enters Tryz.prog 25:=fun args w=>by go_simp
end Ab
end Go.Proofs.YtpdckpifhniioaaGreat
end
section
set_option linter.unusedVariables false
set_option linter.unusedSimpArgs false
namespace Go.Proofs.YtpdckpifhniioaaGreat
open Go.RowKit
namespace Ab
attribute [local irreducible] CallOKd
section
variable {L:List EN} {w:Int→Int→Bool} {k:Nat}
end
theorem apB42 {need:Nat} (k:need*273≤140737488355328):ApB Tryz.prog 42 need:=apB (bytes:=272) (by kernel_rfl) k
attribute [local irreducible] tl rws
end Ab
end Go.Proofs.YtpdckpifhniioaaGreat
end
section
set_option linter.unusedVariables false
set_option linter.unusedSimpArgs false
namespace Go.Proofs.YtpdckpifhniioaaGreat
open Go.RowKit
namespace Ab
attribute [local irreducible] CallOKd
end Ab
end Go.Proofs.YtpdckpifhniioaaGreat
end
section
set_option linter.unusedVariables false
set_option linter.unusedSimpArgs false
namespace Go.Proofs.YtpdckpifhniioaaGreat
open Go.RowKit
namespace Ab
attribute [local irreducible] CallOKd
theorem rws_tl {l:List TA} {k:Nat} (h:k<l.length):List.take 256 (List.drop (k*258+2) (rws l))=tl (at' l k).t:=by
 obtain ⟨m,hm⟩:=rws_drop l k h
 rw[←List.drop_drop,hm]
 show List.take 256 (tl (at' l k).t++m)=_
 rw[List.take_append_of_le_length (by rw[tl_len];exact Nat.le_refl _),tl_take]
end Ab
end Go.Proofs.YtpdckpifhniioaaGreat
end
section
set_option linter.unusedVariables false
set_option linter.unusedSimpArgs false
namespace Go.Proofs.YtpdckpifhniioaaGreat
open Go.RowKit
namespace Ab
attribute [local irreducible] CallOKd
theorem enters130:Enters Tryz.prog 130:=fun args w=>by go_simp
def cz_C130:Cz:={
 ct:=(fun f=>match f with
 |_=>none)
 eq:=(fun t=>match t with
 |_=>none)
 raw:=[],sym:=[],nf:=[],ap:=true,off:=[],on:=[],lp:=fun _=>none,un:=0}
set_option maxRecDepth 100000 in
set_option maxHeartbeats 400000 in
theorem C130 (a b:Int) (h0:0≤a) (h1:a≤1000000000) (b0:0<b) (b1:b≤1000000000) (n:Nat):CallOK Tryz.prog 130 [iv .i64 a,iv .i64 b] [] n (iv .i64 (rnd a b)) [] 0:=by
 refine CallOK.any ?_ (by kernel_rfl) (by kernel_rfl) n
 refine call_ok (cx:=cz_C130) (nm:=[]) rfl Tryz.func130 (body:=Tryz.f130.body.getD .skip) rfl enters130 (by kernel_rfl) ?_
 apply of_eq (q:=IntKind.i64.wrap (2*a)=2*a∧IntKind.i64.wrap (2*a+b)=2*a+b∧IntKind.i64.wrap (2*b)=2*b∧2*b≠0∧IntKind.i64.wrap ((2*a+b).tdiv (2*b))=(2*a+b).tdiv (2*b)∧Le (iv IntKind.i64 ((2*a+b).tdiv (2*b))) (iv IntKind.i64 (rnd a b))∧True) (by kernel_rfl)
 repeat' (first|exact trivial|with_reducible apply And.intro|(with_reducible apply HB.mk)|with_reducible intro _)
 all_goals first
  |(have:=rnd_bd h0 h1 b0 b1;unfold rnd at this;exact okw _ (by omega) (by omega))
  |(omega)
  |(exact Le.of rfl)
theorem enters67:Enters Tryz.prog 67:=fun args w=>by go_simp
def cz_C67 (a b d e:Int):Cz:={
 ct:=(fun f=>match f with
 |_=>none)
 eq:=(fun t=>match t with
 |_=>none)
 raw:=[],sym:=[],nf:=[(8,bv false),(10,iv .i64 1),(13,iv .i64 e),(15,iv .i64 e),(42,iv .i64 a),(55,iv .i64 b),(68,iv .i64 d)],ap:=true,off:=[],on:=[],lp:=fun _=>none,un:=0}
set_option maxRecDepth 100000 in
set_option maxHeartbeats 400000 in
theorem C67 (s0 s1 s2 s3 c:Int) (a b d e:Int) (h0:0≤s0∧s0≤1000000000) (h1:0≤s1∧s1≤1000000000) (h2:0≤s2∧s2≤1000000000) (h3:0≤s3∧s3≤1000000000) (h4:0≤c∧c≤1000000000) (ha:0≤a∧a<256) (hb:0≤b∧b<256) (hd:0≤d∧d<256) (he:0≤e∧e<256):CallOK Tryz.prog 67 [.c (.l (.p 0 0)),ag [u8 a,u8 b,u8 d,u8 e],iv .i64 1] [(0,⟨[li s3,li s0,li s1,li s2,li c],.t 130⟩)] 1 (.tup []) [(0,⟨[li (s3+e),li (s0+e*a),li (s1+e*b),li (s2+e*d),li (c+1)],.t 130⟩)] 0:=by
 have pa:=mul_bd he ha
 have pb:=mul_bd he hb
 have pd:=mul_bd he hd
 have wa:=u8w ha
 have wb:=u8w hb
 have wd:=u8w hd
 have we:=u8w he
 refine call_ok (cx:=cz_C67 a b d e) (nm:=[]) rfl Tryz.func67 (body:=Tryz.f67.body.getD .skip) rfl enters67 (by kernel_rfl) ?_
 apply of_eq (q:=Le (bv (decide (1<1))) (bv false)∧Le (iv IntKind.i64 (imin 1 65536)) (iv IntKind.i64 1)∧Le (iv IntKind.i64 (IntKind.i64.wrap e)) (iv IntKind.i64 e)∧IntKind.i64.wrap (e*1)=e*1∧Le (iv IntKind.i64 (e*1)) (iv IntKind.i64 e)∧IntKind.i64.wrap (c+1)=c+1∧IntKind.i64.wrap (s3+e)=s3+e∧Le (iv IntKind.i64 (IntKind.i64.wrap a)) (iv IntKind.i64 a)∧IntKind.i64.wrap (e*a)=e*a∧IntKind.i64.wrap (s0+e*a)=s0+e*a∧Le (iv IntKind.i64 (IntKind.i64.wrap b)) (iv IntKind.i64 b)∧IntKind.i64.wrap (e*b)=e*b∧IntKind.i64.wrap (s1+e*b)=s1+e*b∧Le (iv IntKind.i64 (IntKind.i64.wrap d)) (iv IntKind.i64 d)∧IntKind.i64.wrap (e*d)=e*d∧IntKind.i64.wrap (s2+e*d)=s2+e*d∧Le (SV.tup []) (SV.tup [])∧BkR (rnId 1 0 []) (Blk.mk [li (s3+e),li (s0+e*a),li (s1+e*b),li (s2+e*d),li (c+1)] (BT.t 130)) (Blk.mk [li (s3+e),li (s0+e*a),li (s1+e*b),li (s2+e*d),li (c+1)] (BT.t 130))∧True) (by kernel_rfl)
 repeat' (first|exact trivial|with_reducible apply And.intro|(with_reducible apply HB.mk)|with_reducible intro _)
 all_goals first
  |(with_reducible exact Le.refl _)
  |(with_reducible exact Le.int wa)
  |(with_reducible exact Le.int wb)
  |(with_reducible exact Le.int wd)
  |(with_reducible exact Le.int we)
  |(with_reducible exact Le.int (Int.mul_one _))
  |(exact Le.bool rfl)
  |(exact Le.int rfl)
  |((rw[Int.mul_one];exact okw _ (by omega) (by omega)))
  |(exact BkR.of (by kernel_rfl))
  |(exact okw _ (by omega) (by omega))
theorem C67g (s0 s1 s2 s3 c:Int) (a b d e:Int) (h0:0≤s0∧s0≤1000000000) (h1:0≤s1∧s1≤1000000000) (h2:0≤s2∧s2≤1000000000) (h3:0≤s3∧s3≤1000000000) (h4:0≤c∧c≤1000000000) (ha:0≤a∧a<256) (hb:0≤b∧b<256) (hd:0≤d∧d<256) (he:0≤e∧e<256) (id n:Nat) (hi:id<n):CallOK Tryz.prog 67 [.c (.l (.p id 0)),ag [u8 a,u8 b,u8 d,u8 e],iv .i64 1] [(id,⟨[li s3,li s0,li s1,li s2,li c],.t 130⟩)] n (.tup []) [(id,⟨[li (s3+e),li (s0+e*a),li (s1+e*b),li (s2+e*d),li (c+1)],.t 130⟩)] 0:=
 CallOK.at1 (C67 s0 s1 s2 s3 c a b d e h0 h1 h2 h3 h4 ha hb hd he) id n hi
theorem enters68:Enters Tryz.prog 68:=fun args w=>by go_simp
def cz_C68:Cz:={
 ct:=(fun f=>match f with
 |130=>some fun _ _S ar=>match ar with | [.c (.l (.v (.int _ a))),.c (.l (.v (.int _ b)))]=>some {v:=iv .i64 (rnd a b),rd:=[],wr:=[],nw:=0}|_=>none
 |_=>none)
 eq:=(fun t=>match t with
 |_=>none)
 raw:=[],sym:=[],nf:=[(8,bv false)],ap:=true,off:=[],on:=[],lp:=fun _=>none,un:=0,wh:=[36]}
set_option maxRecDepth 100000 in
set_option maxHeartbeats 400000 in
theorem C68 (s0 s1 s2 s3:Int) (h0:0≤s0∧s0≤10000000) (h1:0≤s1∧s1≤10000000) (h2:0≤s2∧s2≤10000000) (h3:0≤s3∧s3≤10000000):CallOK Tryz.prog 68 [.c (.l (.p 0 0))] [(0,⟨[li s3,li s0,li s1,li s2,li 64],.t 130⟩)] 1 (ag [u8 (mch s0 s3),u8 (mch s1 s3),u8 (mch s2 s3),u8 (mal s3)]) [] 0:=by
 have hpos:=rnd_pos (s:=s3) h3.1
 refine call_ok (cx:=cz_C68) (nm:=[]) rfl Tryz.func68 (body:=Tryz.f68.body.getD .skip) rfl enters68 (by kernel_rfl) ?_
 apply of_eq (q:=Le (bv (64==0)) (bv false)∧CallOKd Tryz.prog 130 [] [iv IntKind.i64 s3,iv IntKind.i64 64] [] 2 (iv IntKind.i64 (rnd s3 64)) [] 0∧HB (rnd s3 64==0) (0=0∧4=4∧Le (ag [Leaf.v (Value.int IntKind.u8 0),Leaf.v (Value.int IntKind.u8 0),Leaf.v (Value.int IntKind.u8 0),Leaf.v (Value.int IntKind.u8 0)]) (ag [Leaf.v (Value.int IntKind.u8 (mch s0 s3)),Leaf.v (Value.int IntKind.u8 (mch s1 s3)),Leaf.v (Value.int IntKind.u8 (mch s2 s3)),Leaf.v (Value.int IntKind.u8 (mal s3))])∧True) (CallOKd Tryz.prog 130 [] [iv IntKind.i64 s0,iv IntKind.i64 s3] [] 2 (iv IntKind.i64 (rnd s0 s3)) [] 0∧CallOKd Tryz.prog 130 [] [iv IntKind.i64 s1,iv IntKind.i64 s3] [] 2 (iv IntKind.i64 (rnd s1 s3)) [] 0∧CallOKd Tryz.prog 130 [] [iv IntKind.i64 s2,iv IntKind.i64 s3] [] 2 (iv IntKind.i64 (rnd s2 s3)) [] 0∧0=0∧4=4∧Le (ag [Leaf.v (Value.int IntKind.u8 (IntKind.u8.wrap (rnd s0 s3))),Leaf.v (Value.int IntKind.u8 (IntKind.u8.wrap (rnd s1 s3))),Leaf.v (Value.int IntKind.u8 (IntKind.u8.wrap (rnd s2 s3))),Leaf.v (Value.int IntKind.u8 (IntKind.u8.wrap (rnd s3 64)))]) (ag [Leaf.v (Value.int IntKind.u8 (mch s0 s3)),Leaf.v (Value.int IntKind.u8 (mch s1 s3)),Leaf.v (Value.int IntKind.u8 (mch s2 s3)),Leaf.v (Value.int IntKind.u8 (mal s3))])∧True)) (by kernel_rfl)
 repeat' (first|exact trivial|with_reducible apply And.intro|(with_reducible apply HB.mk)|with_reducible intro _)
 all_goals first
  |(with_reducible rfl)
  |(((with_reducible refine C130 _ _ ?_ ?_ ?_ ?_ _)<;>first|omega|exact hpos (by with_reducible assumption)))
  |(exact Le.bool rfl)
  |((refine Le.of ?_;unfold mch mal;rw[((by with_reducible assumption):(rnd s3 64==0)=true)];rfl))
  |((refine Le.of ?_;unfold mch mal;rw[((by with_reducible assumption):(rnd s3 64==0)=false)];rfl))
theorem C68g (s0 s1 s2 s3:Int) (h0:0≤s0∧s0≤10000000) (h1:0≤s1∧s1≤10000000) (h2:0≤s2∧s2≤10000000) (h3:0≤s3∧s3≤10000000) (id n:Nat) (hi:id<n):CallOK Tryz.prog 68 [.c (.l (.p id 0))] [(id,⟨[li s3,li s0,li s1,li s2,li 64],.t 130⟩)] n (ag [u8 (mch s0 s3),u8 (mch s1 s3),u8 (mch s2 s3),u8 (mal s3)]) [] 0:=
 CallOK.at1 (C68 s0 s1 s2 s3 h0 h1 h2 h3) id n hi
def I17 (t:Nat→UInt8) (k:Nat):St:=⟨[(4,iv .i64 (k:Nat)),(3,.c (.l (.p 2 0))),(2,.c (.l (.p 1 0))),(1,.c (.l (.p 0 0)))],[(0,some ⟨tl t,.t 38⟩),(1,some ⟨[u8 0,u8 0,u8 0,u8 0],.t 36⟩),(2,some ⟨[li (mS t 3 k),li (mS t 0 k),li (mS t 1 k),li (mS t 2 k),li (k:Nat)],.t 130⟩)],3,18,[2,1,0],(0)⟩
def W67 (S:St) (i:Nat) (a b d e:Int):Blk:=match S.blk i with|some ⟨[.v (.int _ s3),.v (.int _ s0),.v (.int _ s1),.v (.int _ s2),.v (.int _ c)],_⟩=>⟨[li (s3+e),li (s0+e*a),li (s1+e*b),li (s2+e*d),li (c+1)],.t 130⟩|_=>⟨[],.t 0⟩
def V68 (S:St) (i:Nat):SV:=match S.blk i with|some ⟨[.v (.int _ s3),.v (.int _ s0),.v (.int _ s1),.v (.int _ s2),_],_⟩=>ag [u8 (mch s0 s3),u8 (mch s1 s3),u8 (mch s2 s3),u8 (mal s3)]|_=>.u
theorem mS3 (t:Nat→UInt8) (k:Nat):mS t 3 k+((t (4*k+3)).toNat:Nat)=mS t 3 (k+1):=by
 rw[mS];show _=mS t 3 k+_*1;rw[Int.mul_one]
theorem tl_pix' (t:Nat→UInt8) {k:Nat} (h:k<64):List.take 4 (List.drop (0+((k:Nat):Int).toNat*4) (tl t))=[ub (t (4*k)),ub (t (4*k+1)),ub (t (4*k+2)),ub (t (4*k+3))]:=by
 rw[show 0+((k:Nat):Int).toNat*4=k*4 by omega,tl_pix _ h];rfl
def cz_R17 (t:Nat→UInt8) (k:Nat):Cz:={
 ct:=(fun f=>match f with
 |67=>some fun _ _S ar=>match ar with | [.c (.l (.p i _)),.c (.agg [.v (.int _ a),.v (.int _ b),.v (.int _ d),.v (.int _ e)]),.c (.l (.v (.int _ 1)))]=>some {v:=.tup [],rd:=[i],wr:=[(i,W67 _S i a b d e)],nw:=0}|_=>none
 |68=>some fun _ _S ar=>match ar with | [.c (.l (.p i _))]=>some {v:=V68 _S i,rd:=[i],wr:=[],nw:=0}|_=>none
 |_=>none)
 eq:=(fun t=>match t with
 |_=>none)
 raw:=[],sym:=[13,14],nf:=[(14,.c (.agg [ub (t (4*k)),ub (t (4*k+1)),ub (t (4*k+2)),ub (t (4*k+3))]))],ap:=true,off:=[],on:=[],lp:=fun _=>none,un:=0}
set_option maxRecDepth 100000 in
theorem R17 (t:Nat→UInt8) (k:Nat)  (K:Exit→St→Prop) (h:HB (decide ((Nat.cast k:Int)<64)) (InR ((Nat.cast k:Int)) 64∧0+((Nat.cast k:Int)).toNat*4+4≤256∧Le (ag (List.take 4 (List.drop (0+((Nat.cast k:Int)).toNat*4) (tl t)))) (ag [Leaf.v (Value.int IntKind.u8 (Nat.cast ((t (4*k)).toNat):Int)),Leaf.v (Value.int IntKind.u8 (Nat.cast ((t (4*k+1)).toNat):Int)),Leaf.v (Value.int IntKind.u8 (Nat.cast ((t (4*k+2)).toNat):Int)),Leaf.v (Value.int IntKind.u8 (Nat.cast ((t (4*k+3)).toNat):Int))])∧CallOKd Tryz.prog 67 [] [SV.c (Cp.l (Leaf.p 2 0)),ag [Leaf.v (Value.int IntKind.u8 (Nat.cast ((t (4*k)).toNat):Int)),Leaf.v (Value.int IntKind.u8 (Nat.cast ((t (4*k+1)).toNat):Int)),Leaf.v (Value.int IntKind.u8 (Nat.cast ((t (4*k+2)).toNat):Int)),Leaf.v (Value.int IntKind.u8 (Nat.cast ((t (4*k+3)).toNat):Int))],iv IntKind.i64 1] [(2,Blk.mk [li (mS t 3 k),li (mS t 0 k),li (mS t 1 k),li (mS t 2 k),li (Nat.cast k:Int)] (BT.t 130))] 3 (SV.tup []) [(2,Blk.mk [li (mS t 3 k+(Nat.cast ((t (4*k+3)).toNat):Int)),li (mS t 0 k+(Nat.cast ((t (4*k+3)).toNat):Int)*(Nat.cast ((t (4*k)).toNat):Int)),li (mS t 1 k+(Nat.cast ((t (4*k+3)).toNat):Int)*(Nat.cast ((t (4*k+1)).toNat):Int)),li (mS t 2 k+(Nat.cast ((t (4*k+3)).toNat):Int)*(Nat.cast ((t (4*k+2)).toNat):Int)),li ((Nat.cast k:Int)+1)] (BT.t 130))] 0∧IntKind.i64.wrap ((Nat.cast k:Int)+1)=(Nat.cast k:Int)+1∧RoundTo Tryz.prog ((getLoop 3 (Tryz.f17.body.getD Code.skip)).getD Code.skip) 3 (wkK 3 K) (St.mk [(1,SV.c (Cp.l (Leaf.p 0 0))),(2,SV.c (Cp.l (Leaf.p 1 0))),(3,SV.c (Cp.l (Leaf.p 2 0))),(4,iv IntKind.i64 ((Nat.cast k:Int)+1))] [(0,some (Blk.mk (tl t) (BT.t 38))),(1,some (Blk.mk [Leaf.v (Value.int IntKind.u8 0),Leaf.v (Value.int IntKind.u8 0),Leaf.v (Value.int IntKind.u8 0),Leaf.v (Value.int IntKind.u8 0)] (BT.t 36))),(2,some (Blk.mk [li (mS t 3 k+(Nat.cast ((t (4*k+3)).toNat):Int)),li (mS t 0 k+(Nat.cast ((t (4*k+3)).toNat):Int)*(Nat.cast ((t (4*k)).toNat):Int)),li (mS t 1 k+(Nat.cast ((t (4*k+3)).toNat):Int)*(Nat.cast ((t (4*k+1)).toNat):Int)),li (mS t 2 k+(Nat.cast ((t (4*k+3)).toNat):Int)*(Nat.cast ((t (4*k+2)).toNat):Int)),li ((Nat.cast k:Int)+1)] (BT.t 130)))] 3 18 [2,2,1,0] 0)) (wkK 3 K (Exit.exit 0) (St.mk [(1,SV.c (Cp.l (Leaf.p 0 0))),(2,SV.c (Cp.l (Leaf.p 1 0))),(3,SV.c (Cp.l (Leaf.p 2 0))),(4,iv IntKind.i64 (Nat.cast k:Int))] [(0,some (Blk.mk (tl t) (BT.t 38))),(1,some (Blk.mk [Leaf.v (Value.int IntKind.u8 0),Leaf.v (Value.int IntKind.u8 0),Leaf.v (Value.int IntKind.u8 0),Leaf.v (Value.int IntKind.u8 0)] (BT.t 36))),(2,some (Blk.mk [li (mS t 3 k),li (mS t 0 k),li (mS t 1 k),li (mS t 2 k),li (Nat.cast k:Int)] (BT.t 130)))] 3 18 [2,1,0] 0))):WPL Tryz.prog ((getLoop 3 (Tryz.f17.body.getD .skip)).getD .skip) (I17 t k) (wkK 3 K):=
 wp_roundT [1,2,3,4] [0,1,2] (cx:=cz_R17 t k) rfl (of_eq (by kernel_rfl) h)
set_option maxRecDepth 100000 in
set_option maxHeartbeats 4000000 in
theorem L17 (t:Nat→UInt8)  : ∀(m k:Nat),64-k=m→k≤64→∀(K:Exit→St→Prop),K (.exit 0) (I17 t 64)→WPL Tryz.prog ((getLoop 3 (Tryz.f17.body.getD .skip)).getD .skip) (I17 t k) (wkK 3 K)
 |0,k,hm,hk,K,hK=>by
  have e:k=64:=by omega
  subst e
  refine R17 t _ K (HB.mk (fun hne=>absurd (of_decide_eq_true hne) (by omega)) (fun he=>?_))
  exact wkK.to (I17 t _) (Nat.le_refl _) (by kernel_rfl) (wkE_cons (LeN.sl (by kernel_rfl) rfl) (wkE_cons (LeN.sl (by kernel_rfl) rfl) (wkE_cons (LeN.sl (by kernel_rfl) rfl) (wkE_cons (LeN.sl (by kernel_rfl) rfl) trivial)))) (wkH_cons (BkN.plain (cs:=tl t) (b:=.t 38) (by kernel_rfl) (rfl) (plain_tl t) (by kernel_rfl)) (wkH_cons (BkN.blk (k:=⟨[u8 0,u8 0,u8 0,u8 0],.t 36⟩) (by kernel_rfl) (rfl) (by kernel_rfl)) (wkH_cons (BkN.blk (k:=⟨[li (mS t 3 64),li (mS t 0 64),li (mS t 1 64),li (mS t 2 64),li (64:Nat)],.t 130⟩) (by kernel_rfl) (rfl) (by kernel_rfl)) trivial))) hK
 |m+1,k,hm,hk,K,hK=>by
  refine R17 t k K (HB.mk (fun hne=>?_) (fun he=>absurd (show ((k:Nat):Int)<(64:Nat) by omega) (of_decide_eq_false he)))
  have hlt:k<64:=by omega
  repeat' (first|exact trivial|with_reducible apply And.intro|(with_reducible apply HB.mk)|with_reducible intro _)
  all_goals first
   |(((with_reducible refine C67g _ _ _ _ _ _ _ _ _ ?_ ?_ ?_ ?_ ?_ ?_ ?_ ?_ ?_ _ _ ?_)<;>first|exact okb _|exact mS_b' t _ (Nat.le_of_lt hlt)|omega))
   |(exact ⟨by omega,by omega⟩)
   |(exact Le.of (congrArg (fun l=>SV.c (.agg l)) (tl_pix' t hlt)))
   |(omega)
   |((with_reducible refine RoundTo.toN 3 (I17 t (k+1)) ?_ ?_ ?_ ?_ ?_);exact Nat.le_refl _;kernel_rfl;exact (wkE_cons (LeN.sl (by kernel_rfl) rfl) (wkE_cons (LeN.sl (by kernel_rfl) rfl) (wkE_cons (LeN.sl (by kernel_rfl) rfl) (wkE_cons (LeN.sl (by kernel_rfl) rfl) trivial))));exact (wkH_cons (BkN.plain (cs:=tl t) (b:=.t 38) (by kernel_rfl) (rfl) (plain_tl t) (by kernel_rfl)) (wkH_cons (BkN.blk (k:=⟨[u8 0,u8 0,u8 0,u8 0],.t 36⟩) (by kernel_rfl) (rfl) (by kernel_rfl)) (wkH_cons (BkN.blk (k:=⟨[li (mS t 3 k+((t (4*k+3)).toNat:Nat)),li (mS t 0 k+((t (4*k+3)).toNat:Nat)*((t (4*k)).toNat:Nat)),li (mS t 1 k+((t (4*k+3)).toNat:Nat)*((t (4*k+1)).toNat:Nat)),li (mS t 2 k+((t (4*k+3)).toNat:Nat)*((t (4*k+2)).toNat:Nat)),li (((k:Nat):Int)+1)],.t 130⟩) (by kernel_rfl) (by rw[mS3];rfl) (by kernel_rfl)) trivial)));exact (L17 t  m (k+1) (by omega) (by omega) K hK))
   |(exact okw _ (by omega) (by omega))
theorem enters17:Enters Tryz.prog 17:=fun args w=>by go_simp
def cz_C17 (t:Nat→UInt8):Cz:={
 ct:=(fun f=>match f with
 |67=>some fun _ _S ar=>match ar with | [.c (.l (.p i _)),.c (.agg [.v (.int _ a),.v (.int _ b),.v (.int _ d),.v (.int _ e)]),.c (.l (.v (.int _ 1)))]=>some {v:=.tup [],rd:=[i],wr:=[(i,W67 _S i a b d e)],nw:=0}|_=>none
 |68=>some fun _ _S ar=>match ar with | [.c (.l (.p i _))]=>some {v:=V68 _S i,rd:=[i],wr:=[],nw:=0}|_=>none
 |_=>none)
 eq:=(fun t=>match t with
 |_=>none)
 raw:=[],sym:=[],nf:=[],ap:=true,off:=[],on:=[],lp:=fun r=>match r with|3=>some (fun _ K=>K (.exit 0) (I17 t 64))|_=>none,un:=0,wh:=[36]}
set_option maxRecDepth 100000 in
set_option maxHeartbeats 400000 in
theorem C17 (t:Nat→UInt8)  (n:Nat):CallOK Tryz.prog 17 [.c (.agg (tl t))] [] n (ag (meanL t)) [] 0:=by
 refine CallOK.any ?_ (by kernel_rfl) (by kernel_rfl) n
 refine call_ok (cx:=cz_C17 t) (nm:=[]) rfl Tryz.func17 (body:=Tryz.f17.body.getD .skip) rfl enters17 (by kernel_rfl) ?_
 apply of_eq (q:=(LoopOK Tryz.prog ((getLoop 3 (Tryz.f17.body.getD .skip)).getD .skip) (St.mk [(4,iv IntKind.i64 0),(3,SV.c (Cp.l (Leaf.p 2 0))),(6,SV.c (Cp.l (Leaf.p 2 0))),(5,ag [li 0,li 0,li 0,li 0,li 0]),(2,SV.c (Cp.l (Leaf.p 1 0))),(1,SV.c (Cp.l (Leaf.p 0 0))),(0,ag (tl t))] [(2,some (Blk.mk [li 0,li 0,li 0,li 0,li 0] (BT.t 130))),(1,some (Blk.mk [Leaf.v (Value.int IntKind.u8 0),Leaf.v (Value.int IntKind.u8 0),Leaf.v (Value.int IntKind.u8 0),Leaf.v (Value.int IntKind.u8 0)] (BT.t 36))),(0,some (Blk.mk (tl t) (BT.t 38)))] 3 18 [2,1,0] 0) fun K=>K (Exit.exit 0) (I17 t 64))∧CallOKd Tryz.prog 68 [] [SV.c (Cp.l (Leaf.p 2 0))] [(2,Blk.mk [li (mS t 3 64),li (mS t 0 64),li (mS t 1 64),li (mS t 2 64),li (Nat.cast 64:Int)] (BT.t 130))] 3 (ag [Leaf.v (Value.int IntKind.u8 (mch (mS t 0 64) (mS t 3 64))),Leaf.v (Value.int IntKind.u8 (mch (mS t 1 64) (mS t 3 64))),Leaf.v (Value.int IntKind.u8 (mch (mS t 2 64) (mS t 3 64))),Leaf.v (Value.int IntKind.u8 (mal (mS t 3 64)))]) [] 0∧0=0∧4=4∧Le (ag [Leaf.v (Value.int IntKind.u8 (mch (mS t 0 64) (mS t 3 64))),Leaf.v (Value.int IntKind.u8 (mch (mS t 1 64) (mS t 3 64))),Leaf.v (Value.int IntKind.u8 (mch (mS t 2 64) (mS t 3 64))),Leaf.v (Value.int IntKind.u8 (mal (mS t 3 64)))]) (ag [Leaf.v (Value.int IntKind.u8 (mch (mS t 0 64) (mS t 3 64))),Leaf.v (Value.int IntKind.u8 (mch (mS t 1 64) (mS t 3 64))),Leaf.v (Value.int IntKind.u8 (mch (mS t 2 64) (mS t 3 64))),Leaf.v (Value.int IntKind.u8 (mal (mS t 3 64)))])∧True) (by kernel_rfl)
 repeat' (first|exact trivial|with_reducible apply And.intro|(with_reducible apply HB.mk)|with_reducible intro _)
 all_goals first
  |(with_reducible exact Le.refl _)
  |(with_reducible rfl)
  |(exact LoopOK.mk (I17 t 0) rfl (by kernel_rfl) (wkE_cons (LeN.sl (by kernel_rfl) rfl) (wkE_cons (LeN.sl (by kernel_rfl) rfl) (wkE_cons (LeN.sl (by kernel_rfl) rfl) (wkE_cons (LeN.sl (by kernel_rfl) rfl) trivial)))) (wkH_cons (BkN.plain (cs:=tl t) (b:=.t 38) (by kernel_rfl) (rfl) (plain_tl t) (by kernel_rfl)) (wkH_cons (BkN.blk (k:=⟨[u8 0,u8 0,u8 0,u8 0],.t 36⟩) (by kernel_rfl) (rfl) (by kernel_rfl)) (wkH_cons (BkN.blk (k:=⟨[li (mS t 3 0),li (mS t 0 0),li (mS t 1 0),li (mS t 2 0),li (0:Nat)],.t 130⟩) (by kernel_rfl) (rfl) (by kernel_rfl)) trivial))) (fun K hT=>L17 t  _ 0 rfl (by first|decide|omega) K hT))
  |(((refine C68g _ _ _ _ ?_ ?_ ?_ ?_ _ _ ?_))<;>first|exact mS_b t _ (Nat.le_refl _)|decide)
end Ab
end Go.Proofs.YtpdckpifhniioaaGreat
end
section
set_option linter.unusedVariables false
set_option linter.unusedSimpArgs false
namespace Go.Proofs.YtpdckpifhniioaaGreat
open Go.RowKit
namespace Ab
attribute [local irreducible] CallOKd
end Ab
end Go.Proofs.YtpdckpifhniioaaGreat
end
section
set_option linter.unusedVariables false
set_option linter.unusedSimpArgs false
namespace Go.Proofs.YtpdckpifhniioaaGreat
open Go.RowKit
namespace Ab
section
variable {l:List TA} (g:Good l) {px py:Int} {i c:Nat} (hi:i<64) (hc:c<4)
include hi hc
end
end Ab
end Go.Proofs.YtpdckpifhniioaaGreat
end
section
set_option linter.unusedVariables false
set_option linter.unusedSimpArgs false
namespace Go.Proofs.YtpdckpifhniioaaGreat
open Go.RowKit
namespace Ab
theorem at_len {l:List TA} {k:Nat} (h:k<l.length):l[k]? = some (at' l k):=at_get h
end Ab
end Go.Proofs.YtpdckpifhniioaaGreat
end
section
set_option linter.unusedVariables false
set_option linter.unusedSimpArgs false
namespace Go.Proofs.YtpdckpifhniioaaGreat
open Go.RowKit
namespace Ab
attribute [local irreducible] CallOKd
end Ab
end Go.Proofs.YtpdckpifhniioaaGreat
end
