/- Part 16 of what CodecLocal rests on. -/
import Derived.Test.YtpdckpifhniioaaGreatPo
section
set_option linter.unusedVariables false
set_option linter.unusedSimpArgs false
namespace Go.Proofs.YtpdckpifhniioaaGreat
open Go.RowKit
namespace Ab
def I161 (a b c e:UInt8) (k:Nat):St:=⟨[(4,iv .i64 (k:Nat)),(1,.c (.l (.p 0 0))),(2,.c (.l (.p 1 0))),(3,.c (.l (.p 2 0)))],[(0,some ⟨[ub a,ub b,ub c,ub e],.t 36⟩),(1,some ⟨tl zT,.t 38⟩),(2,some ⟨tl (upTo k (fillT a b c e) zT),.t 38⟩)],3,14,[2,1,0],(0)⟩
def cz_R161 (a b c e:UInt8) (k:Nat):Cz:={
 ct:=(fun f=>match f with
 |_=>none)
 eq:=(fun t=>match t with
 |_=>none)
 raw:=[],sym:=[0,10,12],nf:=[],ap:=true,off:=[],on:=[],lp:=fun _=>none,un:=0}
set_option maxRecDepth 100000 in
theorem R161 (a b c e:UInt8) (k:Nat)  (K:Exit→St→Prop) (h:HB (decide ((Nat.cast k:Int)<64)) (InR ((Nat.cast k:Int)) 64∧0+((Nat.cast k:Int)).toNat*4+4≤256∧IntKind.i64.wrap ((Nat.cast k:Int)+1)=(Nat.cast k:Int)+1∧RoundTo Tryz.prog ((getLoop 3 (Tryz.f161.body.getD Code.skip)).getD Code.skip) 3 (wkK 3 K) (St.mk [(1,SV.c (Cp.l (Leaf.p 0 0))),(2,SV.c (Cp.l (Leaf.p 1 0))),(3,SV.c (Cp.l (Leaf.p 2 0))),(4,iv IntKind.i64 ((Nat.cast k:Int)+1))] [(0,some (Blk.mk [Leaf.v (Value.int IntKind.u8 (Nat.cast a.toNat:Int)),Leaf.v (Value.int IntKind.u8 (Nat.cast b.toNat:Int)),Leaf.v (Value.int IntKind.u8 (Nat.cast c.toNat:Int)),Leaf.v (Value.int IntKind.u8 (Nat.cast e.toNat:Int))] (BT.t 36))),(1,some (Blk.mk (tl zT) (BT.t 38))),(2,some (Blk.mk (splice (tl (upTo k (fillT a b c e) zT)) (0+((Nat.cast k:Int)).toNat*4) [Leaf.v (Value.int IntKind.u8 (Nat.cast a.toNat:Int)),Leaf.v (Value.int IntKind.u8 (Nat.cast b.toNat:Int)),Leaf.v (Value.int IntKind.u8 (Nat.cast c.toNat:Int)),Leaf.v (Value.int IntKind.u8 (Nat.cast e.toNat:Int))]) (BT.t 38)))] 3 14 [2,2,1,0] 0)) (wkK 3 K (Exit.exit 0) (St.mk [(1,SV.c (Cp.l (Leaf.p 0 0))),(2,SV.c (Cp.l (Leaf.p 1 0))),(3,SV.c (Cp.l (Leaf.p 2 0))),(4,iv IntKind.i64 (Nat.cast k:Int))] [(0,some (Blk.mk [Leaf.v (Value.int IntKind.u8 (Nat.cast a.toNat:Int)),Leaf.v (Value.int IntKind.u8 (Nat.cast b.toNat:Int)),Leaf.v (Value.int IntKind.u8 (Nat.cast c.toNat:Int)),Leaf.v (Value.int IntKind.u8 (Nat.cast e.toNat:Int))] (BT.t 36))),(1,some (Blk.mk (tl zT) (BT.t 38))),(2,some (Blk.mk (tl (upTo k (fillT a b c e) zT)) (BT.t 38)))] 3 14 [2,1,0] 0))):WPL Tryz.prog ((getLoop 3 (Tryz.f161.body.getD .skip)).getD .skip) (I161 a b c e k) (wkK 3 K):=
 wp_roundT [1,2,3,4] [0,1,2] (cx:=cz_R161 a b c e k) rfl (of_eq (by kernel_rfl) h)
set_option maxRecDepth 100000 in
set_option maxHeartbeats 4000000 in
theorem L161 (a b c e:UInt8)  : ∀(m k:Nat),64-k=m→k≤64→∀(K:Exit→St→Prop),K (.exit 0) (I161 a b c e 64)→WPL Tryz.prog ((getLoop 3 (Tryz.f161.body.getD .skip)).getD .skip) (I161 a b c e k) (wkK 3 K)
 |0,k,hm,hk,K,hK=>by
  have e:k=64:=by omega
  subst e
  refine R161 a b c e _ K (HB.mk (fun hne=>absurd (of_decide_eq_true hne) (by omega)) (fun he=>?_))
  exact wkK.to (I161 a b c e _) (Nat.le_refl _) (by kernel_rfl) (wkE_cons (LeN.sl (by kernel_rfl) rfl) (wkE_cons (LeN.sl (by kernel_rfl) rfl) (wkE_cons (LeN.sl (by kernel_rfl) rfl) (wkE_cons (LeN.sl (by kernel_rfl) rfl) trivial)))) (wkH_cons (BkN.blk (k:=⟨[ub a,ub b,ub c,ub e],.t 36⟩) (by kernel_rfl) (rfl) (by kernel_rfl)) (wkH_cons (BkN.plain (cs:=tl zT) (b:=.t 38) (by kernel_rfl) (rfl) (plain_tl _) (by kernel_rfl)) (wkH_cons (BkN.plain (cs:=tl (upTo 64 (fillT a b c e) zT)) (b:=.t 38) (by kernel_rfl) (rfl) (plain_tl _) (by kernel_rfl)) trivial))) hK
 |m+1,k,hm,hk,K,hK=>by
  refine R161 a b c e k K (HB.mk (fun hne=>?_) (fun he=>absurd (show ((k:Nat):Int)<(64:Nat) by omega) (of_decide_eq_false he)))
  have hlt:k<64:=by omega
  repeat' (first|exact trivial|with_reducible apply And.intro|(with_reducible apply HB.mk)|with_reducible intro _)
  all_goals first
   |(exact ⟨by omega,by omega⟩)
   |(omega)
   |((with_reducible refine RoundTo.toN 3 (I161 a b c e (k+1)) ?_ ?_ ?_ ?_ ?_);exact Nat.le_refl _;kernel_rfl;exact (wkE_cons (LeN.sl (by kernel_rfl) rfl) (wkE_cons (LeN.sl (by kernel_rfl) rfl) (wkE_cons (LeN.sl (by kernel_rfl) rfl) (wkE_cons (LeN.sl (by kernel_rfl) rfl) trivial))));exact (wkH_cons (BkN.blk (k:=⟨[ub a,ub b,ub c,ub e],.t 36⟩) (by kernel_rfl) (rfl) (by kernel_rfl)) (wkH_cons (BkN.plain (cs:=tl zT) (b:=.t 38) (by kernel_rfl) (rfl) (plain_tl _) (by kernel_rfl)) (wkH_cons (BkN.plain (cs:=splice (tl (upTo k (fillT a b c e) zT)) (0+k*4) [ub a,ub b,ub c,ub e]) (b:=.t 38) (by kernel_rfl) (by rw[Nat.zero_add,fill_px a b c e k,upTo_set k _ _ hlt]) (plain_tl _) (by kernel_rfl)) trivial)));exact (L161 a b c e  m (k+1) (by omega) (by omega) K hK))
   |(exact okw _ (by omega) (by omega))
theorem enters161:Enters Tryz.prog 161:=fun args w=>by go_simp
def cz_C161 (a b c e:UInt8):Cz:={
 ct:=(fun f=>match f with
 |_=>none)
 eq:=(fun t=>match t with
 |_=>none)
 raw:=[],sym:=[],nf:=[(13,.c (.agg (tl (fillT a b c e))))],ap:=true,off:=[],on:=[],lp:=fun r=>match r with|3=>some (fun _ K=>K (.exit 0) (I161 a b c e 64))|_=>none,un:=0,wh:=[38]}
set_option maxRecDepth 100000 in
set_option maxHeartbeats 400000 in
theorem C161 (a b c e:UInt8)  (n:Nat):CallOK Tryz.prog 161 [ag [ub a,ub b,ub c,ub e]] [] n (.c (.agg (tl (fillT a b c e)))) [] 0:=by
 refine CallOK.any ?_ (by kernel_rfl) (by kernel_rfl) n
 refine call_ok (cx:=cz_C161 a b c e) (nm:=[]) rfl Tryz.func161 (body:=Tryz.f161.body.getD .skip) rfl enters161 (by kernel_rfl) ?_
 apply of_eq (q:=0=0∧256=256∧(LoopOK Tryz.prog ((getLoop 3 (Tryz.f161.body.getD .skip)).getD .skip) (St.mk [(4,iv IntKind.i64 0),(3,SV.c (Cp.l (Leaf.p 2 0))),(5,ag zT256),(2,SV.c (Cp.l (Leaf.p 1 0))),(1,SV.c (Cp.l (Leaf.p 0 0))),(0,ag [Leaf.v (Value.int IntKind.u8 (Nat.cast a.toNat:Int)),Leaf.v (Value.int IntKind.u8 (Nat.cast b.toNat:Int)),Leaf.v (Value.int IntKind.u8 (Nat.cast c.toNat:Int)),Leaf.v (Value.int IntKind.u8 (Nat.cast e.toNat:Int))])] [(2,some (Blk.mk zT256 (BT.t 38))),(2,some (Blk.mk zT256 (BT.t 38))),(1,some (Blk.mk zT256 (BT.t 38))),(0,some (Blk.mk [Leaf.v (Value.int IntKind.u8 (Nat.cast a.toNat:Int)),Leaf.v (Value.int IntKind.u8 (Nat.cast b.toNat:Int)),Leaf.v (Value.int IntKind.u8 (Nat.cast c.toNat:Int)),Leaf.v (Value.int IntKind.u8 (Nat.cast e.toNat:Int))] (BT.t 36)))] 3 14 [2,2,1,0] 0) fun K=>K (Exit.exit 0) (I161 a b c e 64))∧Le (ag (List.take 256 (tl (upTo 64 (fillT a b c e) zT)))) (ag (tl (fillT a b c e)))∧0=0∧256=256∧Le (ag (tl (fillT a b c e))) (ag (tl (fillT a b c e)))∧True) (by kernel_rfl)
 repeat' (first|exact trivial|with_reducible apply And.intro|(with_reducible apply HB.mk)|with_reducible intro _)
 all_goals first
  |(with_reducible rfl)
  |(exact LoopOK.mk (I161 a b c e 0) rfl (by kernel_rfl) (wkE_cons (LeN.sl (by kernel_rfl) rfl) (wkE_cons (LeN.sl (by kernel_rfl) rfl) (wkE_cons (LeN.sl (by kernel_rfl) rfl) (wkE_cons (LeN.sl (by kernel_rfl) rfl) trivial)))) (wkH_cons (BkN.blk (k:=⟨[ub a,ub b,ub c,ub e],.t 36⟩) (by kernel_rfl) (rfl) (by kernel_rfl)) (wkH_cons (BkN.plain (cs:=zT256) (b:=.t 38) (by kernel_rfl) (zT256_eq) (plain_tl _) (by kernel_rfl)) (wkH_cons (BkN.plain (cs:=zT256) (b:=.t 38) (by kernel_rfl) (by rw[upTo_none];exact zT256_eq) (plain_tl _) (by kernel_rfl)) trivial))) (fun K hT=>L161 a b c e  _ 0 rfl (by first|decide|omega) K hT))
  |(refine Le.of ?_;rw[upTo_all,tl_take])
  |(exact Le.of (by kernel_rfl))
theorem C161I (a b c e:UInt8) (n:Nat):CallOK Tryz.prog 161 [ag [ub a,ub b,ub c,ub e]] [] n (.c (.agg (tl (fillT (ofI (a.toNat:Nat)) (ofI (b.toNat:Nat)) (ofI (c.toNat:Nat)) (ofI (e.toNat:Nat)))))) [] 0:=by
 rw[ofI_nat,ofI_nat,ofI_nat,ofI_nat];exact C161 a b c e n
end Ab
end Go.Proofs.YtpdckpifhniioaaGreat
end
section
set_option linter.unusedVariables false
set_option linter.unusedSimpArgs false
namespace Go.Proofs.YtpdckpifhniioaaGreat
open Go.RowKit
namespace Ab
def IntsAt (x:Leaf) (p:Nat) (s:List Int):Prop:=s.length≤20000000000000∧(x=.s 0 p s.length∨(s=[]∧p=0∧∃o c,x=.v (.slice o 0 c)))
theorem IntsAt.lt {x:Leaf} {p:Nat} {s:List Int} (h:IntsAt x p s):ltN 1 (.c (.l x))=true:=by
 rcases h.2 with rfl|⟨_,_,o,c,rfl⟩<;>rfl
theorem ints_call {P:Program} {f:Nat} {pre post:List SV} {vp vq:List Value} (ha:pls pre=some vp) (hb:pls post=some vq)
  (h:∀x p s,IntsAt x p s→CallOK P f (pre++.c (.l x)::post) [(0,⟨qls p s,.q⟩)] 1 (bv true) [] 0)
  (o:Option Addr) (zs:List Int) (n c:Nat) (w:World) (w0:n*8≤140737488351232) (hn:zs.length=n) (hcap:n≤c)
  (hc:∀i (h:i<zs.length),∃a,o=some a∧a.block<w.heap.size∧w.cell? (a.add i)=some (.int .i64 zs[i])) :
  Calls P f (vp++.slice o n c::vq).toArray w fun e w'=>e=.returned (.bool true)∧Below w.heap.size w w':=by
 have fin:∀(β:Bt) (x:Leaf) (p:Nat) (s:List Int),IntsAt x p s→x.den β (.slice o n c)→(∀i j b,β i=some b→β j=some b→i=j)→(∀i b,β i=some b→b<w.heap.size)→(∀i,1≤i→β i=none∧β.c i=none)→(∀b,β 0=some b→BlkAt β w b ⟨qls p s,.q⟩)→
   Calls P f (vp++.slice o n c::vq).toArray w fun e w'=>e=.returned (.bool true)∧Below w.heap.size w w':=by
  intro β x p s hx hd hinj hlt hno hbk
  have hden:All2 (SV.den β) (pre++.c (.l x)::post) (vp++.slice o n c::vq):=((pls_iff ha β vp).2 rfl).append ⟨hd,(pls_iff hb β vq).2 rfl⟩
  refine ((h x p s hx).2 β w _ hden hinj hlt (fun id h1 _=>hno id h1) (fun id b k hb hk=>?_) (fun _ h=>by cases h)).mono ?_
  ·cases id with
   |zero=>
    have:k=⟨qls p s,.q⟩:=by
     have e:lk [(0,(⟨qls p s,.q⟩:Blk))] 0=some ⟨qls p s,.q⟩:=lk_cons_eq _ _ _
     rw[e] at hk;exact (Option.some.inj hk).symm
    subst this;exact hbk b hb
   |succ i=>rw[(hno (i+1) (by omega)).1] at hb;cases hb
  ·rintro e x' ⟨z,β',rfl,hD⟩
   refine ⟨by rw[(SV.pl_iff (x:=bv true) (y:=.bool true) rfl β' z).1 hD.den],hD.os,hD.tape,hD.output,hD.size,fun k hk=>hD.keep k hk fun id _=>rfl⟩
 cases zs with
 |nil=>
  have hn0:n=0:=by simpa using hn.symm
  subst hn0
  exact fin ⟨fun _=>none,fun _=>none⟩ (.v (.slice o 0 c)) 0 [] ⟨by simp,.inr ⟨rfl,rfl,o,c,rfl⟩⟩ ⟨rfl,rfl⟩ (fun _ _ _ h=>by cases h) (fun _ _ h=>by cases h) (fun _ _=>⟨rfl,rfl⟩) (fun _ h=>by cases h)
 |cons z zs=>
  obtain ⟨a,rfl,hal,ha0⟩:=hc 0 (by simp)
  obtain ⟨b,off,sp⟩:=a
  have hsp:sp=none:=by
   cases sp with
   |none=>rfl
   |some q=>
    have:=ha0
    unfold World.cell? at this
    simp only[Addr.add] at this
    split at this<;>simp at this
  subst hsp
  refine fin ⟨fun i=>if i=0 then some b else none,fun _=>none⟩ (.s 0 off (z::zs).length) off (z::zs) ⟨by omega,.inl rfl⟩ ⟨b,c,rfl,by omega,by rw[hn]⟩ (fun i j b' h1 h2=>?_) (fun i b' h1=>?_) (fun i hi=>⟨if_neg (by omega),rfl⟩) (fun b' hb'=>?_)
  ·by_cases e1:i=0
   ·by_cases e2:j=0
    ·omega
    ·simp[e2] at h2
   ·simp[e1] at h1
  ·by_cases e1:i=0
   ·simp[e1] at h1;subst h1;exact hal
   ·simp[e1] at h1
  ·have:b'=b:=by simpa using hb'.symm
   subst this
   refine .inl (.inr ⟨rfl,fun i l hl=>?_⟩)
   have hl':(qls off (z::zs))[i]? = some l:=hl
   by_cases hi:i<off
   ·left
    unfold qls at hl'
    rw[List.getElem?_append_left (by simpa using hi),List.getElem?_replicate_of_lt hi] at hl'
    exact (Option.some.inj hl').symm
   ·right
    unfold qls at hl'
    rw[List.getElem?_append_right (by simpa using (by omega:off≤i)),List.length_replicate,List.getElem?_map] at hl'
    obtain ⟨y,hy,rfl⟩:=Option.map_eq_some_iff.1 hl'
    obtain ⟨hy1,hy2⟩:=List.getElem?_eq_some_iff.1 hy
    obtain ⟨a,e,_,hcell⟩:=hc (i-off) hy1
    obtain rfl:=Option.some.inj e
    refine ⟨.int .i64 y,?_,rfl,rfl⟩
    have e2:off+(i-off)=i:=by omega
    have e3:(⟨b',off,none⟩:Addr).add (i-off)=⟨b',i,none⟩:=by
     by_cases e0:i-off=0
     ·have:off=i:=by omega
      subst this
      rw[e0];rfl
     ·simp only[Addr.add,if_neg e0,e2]
    rw[e3] at hcell
    rw[hcell,hy2]
theorem made_any {x:Leaf} {p:Nat} {s:List Int} (h:IntsAt x p s) (n:Nat) (hn:0<n):CallOK Tryz.prog 11 [.c (.l x)] [(0,⟨qls p s,.q⟩)] n (.c (.agg [.o n (mdL s (mdN s)).length])) [(n,⟨rws (mdL s (mdN s)),.r 42 258 n⟩)] 1:=by
 have e1:∀σ,(qls p s).map (Leaf.ren σ)=qls p s:=(fix_qls p s).2
 have e2:=ren_plain (σ:=up1 0 n) (plain_rws (mdL s (mdN s)))
 rcases h.2 with rfl|⟨rfl,rfl,o,c,rfl⟩
 ·have key:=CallOK.at1 (C11 p s h.1) 0 n hn
  simp only[List.map_cons,List.map_nil,Blk.ren,SV.ren,Cp.ren,Leaf.ren,BT.ren,e1,e2] at key
  exact key
 ·have key:=CallOK.at1 (C11z o c) 0 n hn
  simp only[List.map_cons,List.map_nil,Blk.ren,SV.ren,Cp.ren,Leaf.ren,BT.ren,e1,e2] at key
  exact key
theorem made_good (s:List Int):Good (mdL s (mdN s)):=mdL_good s _ (Nat.min_le_right _ _)
theorem made_len (s:List Int):(mdL s (mdN s)).length≤6:=Nat.le_trans (mdL_len s _) (Nat.min_le_right _ _)
end Ab
end Go.Proofs.YtpdckpifhniioaaGreat
end
