/- Part 7 of what CodecPacks rests on. -/
import Derived.Test.YtpdckpifhniioaaGreatProg
import Derived.WalkKit
import Derived.Test.YtpdckpifhniioaaGreatVb
import Derived.Test.YtpdckpifhniioaaGreatVf
section
set_option linter.unusedVariables false
namespace Go.Proofs.YtpdckpifhniioaaGreat
open Go.RowKit
namespace Ab
def Leaf.ren (σ:Nat→Nat):Leaf→Leaf
 |.v x=>.v x
 |.p id off=>.p (σ id) off
 |.f fn caps=>.f fn (caps.map fun c=>(σ c.1,c.2))
 |.s id off len=>.s (σ id) off len
 |.o id len=>.o (σ id) len
 |.u=>.u
def Cp.ren (σ:Nat→Nat):Cp→Cp
 |.l x=>.l (x.ren σ)
 |.agg xs=>.agg (xs.map (Leaf.ren σ))
def SV.ren (σ:Nat→Nat):SV→SV
 |.u=>.u
 |.c x=>.c (x.ren σ)
 |.tup xs=>.tup (xs.map (Cp.ren σ))
 |.g b x=>.g b (x.ren σ)
def BT.ren (σ:Nat→Nat):BT→BT
 |.t n=>.t n
 |.r n sz id=>.r n sz (σ id)
 |.y n=>.y n
 |.e n=>.e n
 |.x=>.x
 |.q=>.q
def Blk.ren (σ:Nat→Nat) (k:Blk):Blk:=⟨k.cs.map (Leaf.ren σ),k.ty.ren σ⟩
def Bt.of (β:Bt) (σ:Nat→Nat):Bt:=⟨fun i=>β (σ i),fun i=>β.c (σ i)⟩
theorem all2_mapl {α β γ:Type} {R:γ→β→Prop} (f:α→γ):∀ {l:List α} {m:List β},All2 R (l.map f) m↔All2 (fun a b=>R (f a) b) l m
 |[],[]=>Iff.rfl
 |[],_::_=>Iff.rfl
 |_::_,[]=>Iff.rfl
 |a::l,b::m=>by simp only[List.map_cons,All2,all2_mapl f (l:=l) (m:=m)]
theorem all2_iff {α β:Type} {R S:α→β→Prop} (h:∀a b,R a b↔S a b):∀ {l:List α} {m:List β},All2 R l m↔All2 S l m
 |[],[]=>Iff.rfl
 |[],_::_=>Iff.rfl
 |_::_,[]=>Iff.rfl
 |a::l,b::m=>by simp only[All2,h,all2_iff h (l:=l) (m:=m)]
section
variable {σ:Nat→Nat} {β:Bt}
theorem Leaf.ren_den (x:Leaf) (y:Value):(x.ren σ).den β y↔x.den (β.of σ) y:=by
 cases x with
 |v a=>exact Iff.rfl
 |p id off=>exact Iff.rfl
 |f fn caps=>
  simp only[Leaf.ren,Leaf.den]
  constructor
  ·rintro ⟨cs,h,e⟩;exact ⟨cs,(all2_mapl _).1 h,e⟩
  ·rintro ⟨cs,h,e⟩;exact ⟨cs,(all2_mapl _).2 h,e⟩
 |s id off len=>exact Iff.rfl
 |o id len=>exact Iff.rfl
 |u=>exact Iff.rfl
theorem Cp.ren_den (x:Cp) (y:Value):(x.ren σ).den β y↔x.den (β.of σ) y:=by
 cases x with
 |l a=>exact Leaf.ren_den a y
 |agg xs=>
  simp only[Cp.ren,Cp.den]
  constructor
  ·rintro ⟨ys,e,h⟩;exact ⟨ys,e,(all2_iff fun a b=>Leaf.ren_den a b).1 ((all2_mapl _).1 h)⟩
  ·rintro ⟨ys,e,h⟩;exact ⟨ys,e,(all2_mapl _).2 ((all2_iff fun a b=>Leaf.ren_den a b).2 h)⟩
theorem SV.ren_den (x:SV) (y:Value):(x.ren σ).den β y↔x.den (β.of σ) y:=by
 cases x with
 |u=>exact Iff.rfl
 |c a=>exact Cp.ren_den a y
 |tup xs=>
  simp only[SV.ren,SV.den]
  constructor
  ·rintro ⟨ys,e,h⟩;exact ⟨ys,e,(all2_iff fun a b=>Cp.ren_den a b).1 ((all2_mapl _).1 h)⟩
  ·rintro ⟨ys,e,h⟩;exact ⟨ys,e,(all2_mapl _).2 ((all2_iff fun a b=>Cp.ren_den a b).2 h)⟩
 |g b a=>simp only[SV.ren,SV.den,Cp.ren_den]
theorem BT.ren_ty (t:BT):(t.ren σ).ty=t.ty∧((t.ren σ=.x↔t=.x)∧(t.ren σ=.q↔t=.q))∧(∀l m,(t.ren σ).room β l m↔t.room (β.of σ) l m)∧∀m,(t.ren σ).fr m=t.fr m:=by
 cases t with
 |t n=>exact ⟨rfl,⟨⟨fun h=>(by cases h),fun h=>(by cases h)⟩,⟨fun h=>(by cases h),fun h=>(by cases h)⟩⟩,fun _ _=>Iff.rfl,fun _=>rfl⟩
 |e n=>exact ⟨rfl,⟨⟨fun h=>(by cases h),fun h=>(by cases h)⟩,⟨fun h=>(by cases h),fun h=>(by cases h)⟩⟩,fun _ _=>Iff.rfl,fun _=>rfl⟩
 |r n sz id=>exact ⟨rfl,⟨⟨fun h=>(by cases h),fun h=>(by cases h)⟩,⟨fun h=>(by cases h),fun h=>(by cases h)⟩⟩,fun _ _=>Iff.rfl,fun _=>rfl⟩
 |y n=>exact ⟨rfl,⟨⟨fun h=>(by cases h),fun h=>(by cases h)⟩,⟨fun h=>(by cases h),fun h=>(by cases h)⟩⟩,fun _ _=>Iff.rfl,fun _=>rfl⟩
 |q=>exact ⟨rfl,⟨⟨fun h=>(by cases h),fun h=>(by cases h)⟩,Iff.rfl⟩,fun _ _=>Iff.rfl,fun _=>rfl⟩
 |x=>exact ⟨rfl,⟨Iff.rfl,⟨fun h=>(by cases h),fun h=>(by cases h)⟩⟩,fun _ _=>Iff.rfl,fun _=>rfl⟩
theorem Blk.ren_at {x:World} {b:Nat} (k:Blk):BlkAt β x b (k.ren σ)↔BlkAt (β.of σ) x b k:=by
 obtain ⟨q1,q2,q3,q4⟩:=BT.ren_ty (σ:=σ) (β:=β) k.ty
 unfold BlkAt Blk.ren
 simp only[q1,q2.1,q2.2,q3,q4,List.map_eq_nil_iff]
 refine or_congr (or_congr Iff.rfl (and_congr Iff.rfl ?_)) ?_
 ·unfold QC
  constructor
  ·intro h i l hl
   rcases h i (l.ren σ) (by rw[List.getElem?_map,hl];rfl) with h1|⟨y,h1,h2⟩
   ·left;cases l<;>simp_all [Leaf.ren]
   ·exact .inr ⟨y,h1,(Leaf.ren_den l y).1 h2⟩
  ·intro h i l hl
   rw[List.getElem?_map,Option.map_eq_some_iff] at hl
   obtain ⟨z,hz,rfl⟩:=hl
   rcases h i z hz with h1|⟨y,h1,h2⟩
   ·left;rw[h1];rfl
   ·exact .inr ⟨y,h1,(Leaf.ren_den z y).2 h2⟩
 constructor
 ·rintro ⟨ys,zs,h1,h2,h3⟩;exact ⟨ys,zs,h1,(all2_iff fun a b=>Leaf.ren_den a b).1 ((all2_mapl _).1 h2),h3⟩
 ·rintro ⟨ys,zs,h1,h2,h3⟩;exact ⟨ys,zs,h1,(all2_mapl _).2 ((all2_iff fun a b=>Leaf.ren_den a b).2 h2),h3⟩
end
theorem lk_ren {α γ:Type} {σ:Nat→Nat} (hi:∀i j,σ i=σ j→i=j) (f:α→γ):∀(l:List (Nat×α)) (i:Nat),lk (l.map fun p=>(σ p.1,f p.2)) (σ i)=(lk l i).map f
 |[],i=>rfl
 |(k,v)::l,i=>by
  by_cases e:k=i
  ·subst e;rw[List.map_cons,lk_cons_eq,lk_cons_eq];rfl
  ·rw[List.map_cons,lk_cons_ne _ _ (fun h=>e (hi _ _ h)),lk_cons_ne _ _ e];exact lk_ren hi f l i
theorem lk_ren_of {α γ:Type} {σ:Nat→Nat} (f:α→γ):∀(l:List (Nat×α)) (j:Nat) (k:γ),lk (l.map fun p=>(σ p.1,f p.2)) j=some k→∃i,σ i=j
 |[],j,k,h=>by cases h
 |(a,v)::l,j,k,h=>by
  by_cases e:σ a=j
  ·exact ⟨a,e⟩
  ·rw[List.map_cons,lk_cons_ne _ _ e] at h;exact lk_ren_of f l j k h
theorem CallOKd.ren {P:Program} {f:Nat} {dc:List (Nat×Nat×Bool)} {args:List SV} {H:List (Nat×Blk)} {n:Nat} {v:SV} {wr:List (Nat×Blk)} {nw:Nat} (h:CallOKd P f dc args H n v wr nw) (σ:Nat→Nat) (n':Nat)
  (hlo:∀i,i<n→σ i<n') (hhi:∀i,n≤i→σ i=n'+(i-n)) (hin:∀i j,i<n→j<n→σ i=σ j→i=j) :
  CallOKd P f (dc.map fun p=>(σ p.1,p.2)) (args.map (SV.ren σ)) (H.map fun p=>(σ p.1,p.2.ren σ)) n' (v.ren σ) (wr.map fun p=>(σ p.1,p.2.ren σ)) nw:=by
 have hi:∀i j,σ i=σ j→i=j:=by
  intro i j e
  by_cases h1:i<n
  ·by_cases h2:j<n
   ·exact hin i j h1 h2 e
   ·have:=hlo i h1;have:=hhi j (by omega);omega
  ·by_cases h2:j<n
   ·have:=hlo j h2;have:=hhi i (by omega);omega
   ·have:=hhi i (by omega);have:=hhi j (by omega);omega
 refine ⟨h.1,fun β x vals ha hinj hlt hnew hH hdc=>?_⟩
 have key:=h.2 (β.of σ) x vals ((all2_iff fun a b=>SV.ren_den a b).1 ((all2_mapl _).1 ha)) (fun i j b h1 h2=>hi _ _ (hinj _ _ b h1 h2)) (fun i b h1=>hlt _ b h1)
  (fun id h1 h2=>hnew (σ id) (by rw[hhi id h1];omega) (by rw[hhi id h1];omega))
  (fun id b k h1 h2=>(Blk.ren_at k).1 (hH (σ id) b (k.ren σ) h1 (by rw[lk_ren hi (Blk.ren σ),h2];rfl))) (fun p hp w hv=>hdc (σ p.1,p.2) (List.mem_map.2 ⟨p,hp,rfl⟩) w hv)
 refine key.mono ?_
 rintro e x' ⟨y,β₂,rfl,hD⟩
 have hE:∀i b,β i=some b→¬(n'≤i∧i<n'+nw):=fun i b h1 ⟨h2,h3⟩=>by rw[(hnew i h2 h3).1] at h1;cases h1
 have hEc:∀i b,β.c i=some b→¬(n'≤i∧i<n'+nw):=fun i b h1 ⟨h2,h3⟩=>by rw[(hnew i h2 h3).2] at h1;cases h1
 obtain ⟨β₃,hβ₃⟩:∃g:Bt,g=⟨fun j=>if n'≤j∧j<n'+nw then β₂ (n+(j-n')) else β j,fun j=>if n'≤j∧j<n'+nw then β₂.c (n+(j-n')) else β.c j⟩:=⟨_,rfl⟩
 have v3:∀j,β₃ j=if n'≤j∧j<n'+nw then β₂ (n+(j-n')) else β j:=fun j=>by rw[hβ₃]
 have w3:∀j,β₃.c j=if n'≤j∧j<n'+nw then β₂.c (n+(j-n')) else β.c j:=fun j=>by rw[hβ₃]
 have hX:Ext β₂ (β₃.of σ):=by
  refine ⟨fun i b hb=>?_,fun i b hb=>?_⟩
  ·rcases hD.new i b hb with h1|⟨h1,h2,h3⟩
   ·show β₃ (σ i)=_
    rw[v3,if_neg (hE _ _ h1)];exact h1
   ·show β₃ (σ i)=_
    have e:=hhi i h1
    rw[v3,if_pos ⟨by omega,by omega⟩,show n+(σ i-n')=i by omega];exact hb
  ·rcases hD.newc i b hb with h1|⟨h1,h2⟩
   ·show β₃.c (σ i)=_
    rw[w3,if_neg (hEc _ _ h1)];exact h1
   ·show β₃.c (σ i)=_
    have e:=hhi i h1
    rw[w3,if_pos ⟨by omega,by omega⟩,show n+(σ i-n')=i by omega];exact hb
 refine ⟨y,β₃,rfl,⟨(SV.ren_den v y).2 (SV.ext hX hD.den),⟨?_,?_⟩,?_,?_,?_,?_,hD.os,hD.tape,hD.output,hD.size,?_,?_⟩⟩
 ·intro i b hb
  rw[v3,if_neg (hE i b hb)];exact hb
 ·intro i b hb
  rw[w3,if_neg (hEc i b hb)];exact hb
 ·intro i b hb
  rw[v3] at hb
  split at hb
  ·rename_i hr
   rcases hD.new _ b hb with h1|⟨h1,h2,h3⟩
   ·exfalso
    have e:=hhi (n+(i-n')) (by omega)
    rw[show n'+(n+(i-n')-n)=i by omega] at e
    have h1:β (σ (n+(i-n')))=some b:=h1
    rw[e] at h1
    exact hE i b h1 hr
   ·exact .inr ⟨hr.1,hr.2,h3⟩
  ·exact .inl hb
 ·intro i b hb
  rw[w3] at hb
  split at hb
  ·rename_i hr
   exact .inr hr
  ·exact .inl hb
 ·intro i j b hb hc
  rw[v3] at hb hc
  split at hb
  ·rename_i hr
   split at hc
   ·rename_i hs
    have:=hD.inj _ _ b hb hc
    omega
   ·rename_i hs
    exfalso
    rcases hD.new _ b hb with h1|⟨h1,h2,h3⟩
    ·have e:=hhi (n+(i-n')) (by omega)
     rw[show n'+(n+(i-n')-n)=i by omega] at e
     have h1:β (σ (n+(i-n')))=some b:=h1
     rw[e] at h1
     exact hE i b h1 hr
    ·have:=hlt j b hc;omega
  ·rename_i hr
   split at hc
   ·rename_i hs
    exfalso
    rcases hD.new _ b hc with h1|⟨h1,h2,h3⟩
    ·have e:=hhi (n+(j-n')) (by omega)
     rw[show n'+(n+(j-n')-n)=j by omega] at e
     have h1:β (σ (n+(j-n')))=some b:=h1
     rw[e] at h1
     exact hE j b h1 hs
    ·have:=hlt i b hb;omega
   ·exact hinj i j b hb hc
 ·intro i b hb
  rw[v3] at hb
  split at hb
  ·exact hD.lt _ b hb
  ·exact Nat.lt_of_lt_of_le (hlt i b hb) hD.size
 ·intro k hk hne
  refine hD.keep k hk fun id hb=>?_
  have:=hne (σ id) hb
  rw[lk_ren hi (Blk.ren σ)] at this
  cases hq:lk wr id with
  |none=>rfl
  |some q=>rw[hq] at this;cases this
 ·intro i b k hb hk
  obtain ⟨id,rfl⟩:=lk_ren_of (Blk.ren σ) wr i k hk
  rw[lk_ren hi (Blk.ren σ)] at hk
  cases hq:lk wr id with
  |none=>rw[hq] at hk;cases hk
  |some q=>
   rw[hq] at hk
   simp only[Option.map_some,Option.some.injEq] at hk
   subst hk
   have hb2:β₂ id=some b:=by
    rw[v3] at hb
    split at hb
    ·rename_i hr
     have hge:n≤id:=by
      rcases Nat.lt_or_ge id n with h1|h1
      ·have:=hlo id h1;omega
      ·exact h1
     have e:=hhi id hge
     rw[show n+(σ id-n')=id by omega] at hb
     exact hb
    ·exact hD.ext.b id b hb
   refine (Blk.ren_at q).2 ?_
   exact (hD.blk id b q hb2 hq).ext hX rfl
theorem CallOK.ren {P:Program} {f:Nat} {args:List SV} {H:List (Nat×Blk)} {n:Nat} {v:SV} {wr:List (Nat×Blk)} {nw:Nat} (h:CallOK P f args H n v wr nw) (σ:Nat→Nat) (n':Nat)
  (hlo:∀i,i<n→σ i<n') (hhi:∀i,n≤i→σ i=n'+(i-n)) (hin:∀i j,i<n→j<n→σ i=σ j→i=j) :
  CallOK P f (args.map (SV.ren σ)) (H.map fun p=>(σ p.1,p.2.ren σ)) n' (v.ren σ) (wr.map fun p=>(σ p.1,p.2.ren σ)) nw:=CallOKd.ren h σ n' hlo hhi hin
end Ab
end Go.Proofs.YtpdckpifhniioaaGreat
end
section
set_option linter.unusedVariables false
set_option linter.unusedSimpArgs false
namespace Go.Proofs.YtpdckpifhniioaaGreat
open Go.RowKit
namespace Ab
theorem enters179:Enters Tryz.prog 179:=fun args w=>by go_simp
def cz_C179:Cz:={
 ct:=(fun f=>match f with
 |_=>none)
 eq:=(fun t=>match t with
 |_=>none)
 raw:=[],sym:=[],nf:=[],ap:=true,off:=[],on:=[],lp:=fun _=>none,un:=0}
set_option maxRecDepth 100000 in
set_option maxHeartbeats 400000 in
theorem C179 (x:Int)  (n:Nat):CallOK Tryz.prog 179 [iv .i64 x] [] n (bv false) [] 0:=by
 refine CallOK.any ?_ (by kernel_rfl) (by kernel_rfl) n
 refine call_ok (cx:=cz_C179) (nm:=[]) rfl Tryz.func179 (body:=Tryz.f179.body.getD .skip) rfl enters179 (by kernel_rfl) ?_
 apply of_eq (q:=Le (bv (x != x)) (bv false)∧True) (by kernel_rfl)
 repeat' (first|exact trivial|with_reducible apply And.intro|(with_reducible apply HB.mk)|with_reducible intro _)
 all_goals first
  |(exact Le.bool (by simp))
def cmpI (x y:Int):Int:=bif decide (x<y) then -1 else bif decide (x>y) then 1 else 0
def orI (a b:Int):Int:=bif a != 0 then a else bif b != 0 then b else 0
theorem enters144:Enters Tryz.prog 144:=fun args w=>by go_simp
def cz_C144:Cz:={
 ct:=(fun f=>match f with
 |179=>some fun _ _S ar=>match ar with | [.c (.l (.v (.int _ x)))]=>some {v:=bv false,rd:=[],wr:=[],nw:=0}|_=>none
 |_=>none)
 eq:=(fun t=>match t with
 |_=>none)
 raw:=[],sym:=[],nf:=[],ap:=true,off:=[],on:=[],lp:=fun _=>none,un:=0}
set_option maxRecDepth 100000 in
set_option maxHeartbeats 400000 in
theorem C144 (x y:Int)  (n:Nat):CallOK Tryz.prog 144 [iv .i64 x,iv .i64 y] [] n (iv .i64 (cmpI x y)) [] 0:=by
 refine CallOK.any ?_ (by kernel_rfl) (by kernel_rfl) n
 refine call_ok (cx:=cz_C144) (nm:=[]) rfl Tryz.func144 (body:=Tryz.f144.body.getD .skip) rfl enters144 (by kernel_rfl) ?_
 apply of_eq (q:=CallOKd Tryz.prog 179 [] [iv IntKind.i64 x] [] 0 (bv false) [] 0∧CallOKd Tryz.prog 179 [] [iv IntKind.i64 y] [] 0 (bv false) [] 0∧HB (decide (x<y)) (Le (iv IntKind.i64 (-1)) (iv IntKind.i64 (cmpI x y))∧True) (HB (decide (x>y)) (Le (iv IntKind.i64 1) (iv IntKind.i64 (cmpI x y))∧True) (Le (iv IntKind.i64 0) (iv IntKind.i64 (cmpI x y))∧True))) (by kernel_rfl)
 repeat' (first|exact trivial|with_reducible apply And.intro|(with_reducible apply HB.mk)|with_reducible intro _)
 all_goals first
  |(with_reducible exact C179 _ _)
  |(refine Le.int ?_;unfold cmpI;simp only[‹decide (x<y)=_›,cond_true,cond_false];done)
  |(refine Le.int ?_;unfold cmpI;simp only[‹decide (x<y)=_›,‹decide (x>y)=_›,cond_true,cond_false];done)
theorem enters143:Enters Tryz.prog 143:=fun args w=>by go_simp
def cz_C143:Cz:={
 ct:=(fun f=>match f with
 |_=>none)
 eq:=(fun t=>match t with
 |_=>none)
 raw:=[],sym:=[],nf:=[],ap:=true,off:=[],on:=[],lp:=fun _=>none,un:=3}
set_option maxRecDepth 100000 in
set_option maxHeartbeats 400000 in
theorem C143 (a b:Int)  : CallOK Tryz.prog 143 [.c (.l (.o 2 2))] [(2,⟨[li a,li b],.r 3 1 2⟩)] 3 (iv .i64 (orI a b)) [] ([]:List Nat).length:=by
 refine call_ok (cx:=cz_C143) (nm:=[]) rfl Tryz.func143 (body:=Tryz.f143.body.getD .skip) rfl enters143 (by kernel_rfl) ?_
 apply of_eq (q:=HB (a != 0) (Le (iv IntKind.i64 a) (iv IntKind.i64 (orI a b))∧True) (IntKind.i64.wrap (0+1)=0+1∧HB (b != 0) (Le (iv IntKind.i64 b) (iv IntKind.i64 (orI a b))∧True) (IntKind.i64.wrap (0+1+1)=0+1+1∧Le (iv IntKind.i64 0) (iv IntKind.i64 (orI a b))∧True))) (by kernel_rfl)
 repeat' (first|exact trivial|with_reducible apply And.intro|(with_reducible apply HB.mk)|with_reducible intro _)
 all_goals first
  |(refine Le.int ?_;unfold orI;simp only[‹(a != 0)=_›,cond_true,cond_false];done)
  |(refine Le.int ?_;unfold orI;simp only[‹(a != 0)=_›,‹(b != 0)=_›,cond_true,cond_false];done)
  |(exact okw _ (by omega) (by omega))
def V143 (S:St) (i:Nat):SV:=match S.blk i with|some ⟨[.v (.int _ a),.v (.int _ b)],_⟩=>iv .i64 (orI a b)|_=>.u
def ordI (ax ay bx by_:Int):Int:=orI (cmpI ay by_) (cmpI ax bx)
theorem enters109:Enters Tryz.prog 109:=fun args w=>by go_simp
def cz_C109:Cz:={
 ct:=(fun f=>match f with
 |143=>some fun _ _S ar=>match ar with | [.c (.l (.o i _))]=>some {v:=V143 _S i,rd:=[i],wr:=[],nw:=0}|_=>none
 |144=>some fun _ _S ar=>match ar with | [.c (.l (.v (.int _ x))),.c (.l (.v (.int _ y)))]=>some {v:=iv .i64 (cmpI x y),rd:=[],wr:=[],nw:=0}|_=>none
 |_=>none)
 eq:=(fun t=>match t with
 |_=>none)
 raw:=[],sym:=[],nf:=[],ap:=true,off:=[],on:=[],lp:=fun _=>none,un:=0}
set_option maxRecDepth 100000 in
set_option maxHeartbeats 400000 in
theorem C109 (ax ay bx by_:Int)  (n:Nat):CallOK Tryz.prog 109 [ag [li ax,li ay],ag [li bx,li by_]] [] n (iv .i64 (ordI ax ay bx by_)) [] 0:=by
 refine CallOK.any ?_ (by kernel_rfl) (by kernel_rfl) n
 refine call_ok (cx:=cz_C109) (nm:=[]) rfl Tryz.func109 (body:=Tryz.f109.body.getD .skip) rfl enters109 (by kernel_rfl) ?_
 apply of_eq (q:=CallOKd Tryz.prog 144 [] [iv IntKind.i64 ay,iv IntKind.i64 by_] [] 2 (iv IntKind.i64 (cmpI ay by_)) [] 0∧CallOKd Tryz.prog 144 [] [iv IntKind.i64 ax,iv IntKind.i64 bx] [] 2 (iv IntKind.i64 (cmpI ax bx)) [] 0∧CallOKd Tryz.prog 143 [] [SV.c (Cp.l (Leaf.o 2 2))] [(2,Blk.mk [li (cmpI ay by_),li (cmpI ax bx)] (BT.r 3 1 2))] 3 (iv IntKind.i64 (orI (cmpI ay by_) (cmpI ax bx))) [] 0∧Le (iv IntKind.i64 (orI (cmpI ay by_) (cmpI ax bx))) (iv IntKind.i64 (ordI ax ay bx by_))∧True) (by kernel_rfl)
 repeat' (first|exact trivial|with_reducible apply And.intro|(with_reducible apply HB.mk)|with_reducible intro _)
 all_goals first
  |((exact C143 _ _))
  |(with_reducible exact C144 _ _ _)
  |(exact Le.of rfl)
def inB (x y:Int):Bool:=decide (-8192≤x∧x≤8191∧-8192≤y∧y≤8191)
theorem inB_eq (x y:Int):(bif (bif (bif decide (x≥-8192) then decide (x≤8191) else false) then decide (y≥-8192) else false) then decide (y≤8191) else false)=inB x y:=by
 unfold inB
 by_cases h1:x≥-8192<;>by_cases h2:x≤8191<;>by_cases h3:y≥-8192<;>by_cases h4:y≤8191<;>simp[h1,h2,h3,h4]<;>omega
theorem ord_lt {ax ay bx by_:Int} (h:ay<by_∨(ay=by_∧ax<bx)):ordI ax ay bx by_<0:=by
 unfold ordI orI cmpI
 rcases h with h|⟨h1,h2⟩
 ·simp[h]
 ·subst h1;simp[h2]
theorem enters107:Enters Tryz.prog 107:=fun args w=>by go_simp
def cz_C107:Cz:={
 ct:=(fun f=>match f with
 |_=>none)
 eq:=(fun t=>match t with
 |_=>none)
 raw:=[],sym:=[],nf:=[],ap:=true,off:=[],on:=[],lp:=fun _=>none,un:=0}
set_option maxRecDepth 100000 in
set_option maxHeartbeats 400000 in
theorem C107 (x y:Int)  (n:Nat):CallOK Tryz.prog 107 [ag [li x,li y]] [] n (bv (inB x y)) [] 0:=by
 refine CallOK.any ?_ (by kernel_rfl) (by kernel_rfl) n
 refine call_ok (cx:=cz_C107) (nm:=[]) rfl Tryz.func107 (body:=Tryz.f107.body.getD .skip) rfl enters107 (by kernel_rfl) ?_
 apply of_eq (q:=(decide (x≥-8192)=true→decide (x≥-8192)=true∧True)∧(decide (x≥-8192)=true→decide (x≥-8192)=true∧True)∧(decide (x≥-8192)=true→decide (x≥-8192)=true)∧((bif decide (x≥-8192) then decide (x≤8191) else false)=true→(bif decide (x≥-8192) then decide (x≤8191) else false)=true∧True)∧((bif decide (x≥-8192) then decide (x≤8191) else false)=true→(bif decide (x≥-8192) then decide (x≤8191) else false)=true∧True)∧((bif decide (x≥-8192) then decide (x≤8191) else false)=true→(bif decide (x≥-8192) then decide (x≤8191) else false)=true)∧((bif bif decide (x≥-8192) then decide (x≤8191) else false then decide (y≥-8192) else false)=true→(bif bif decide (x≥-8192) then decide (x≤8191) else false then decide (y≥-8192) else false)=true∧True)∧((bif bif decide (x≥-8192) then decide (x≤8191) else false then decide (y≥-8192) else false)=true→(bif bif decide (x≥-8192) then decide (x≤8191) else false then decide (y≥-8192) else false)=true∧True)∧((bif bif decide (x≥-8192) then decide (x≤8191) else false then decide (y≥-8192) else false)=true→(bif bif decide (x≥-8192) then decide (x≤8191) else false then decide (y≥-8192) else false)=true)∧Le (bv (bif bif bif decide (x≥-8192) then decide (x≤8191) else false then decide (y≥-8192) else false then decide (y≤8191) else false)) (bv (inB x y))∧True) (by kernel_rfl)
 repeat' (first|exact trivial|with_reducible apply And.intro|(with_reducible apply HB.mk)|with_reducible intro _)
 all_goals first
  |(assumption)
  |(exact Le.bool (inB_eq x y))
end Ab
end Go.Proofs.YtpdckpifhniioaaGreat
end
section
set_option linter.unusedVariables false
namespace Go.Proofs.YtpdckpifhniioaaGreat
open Go.RowKit
namespace Ab
structure TA where
 X:Int
 Y:Int
 t:Nat→UInt8
def el (e:TA):List Leaf:=li e.X::li e.Y::tl e.t
def rws (l:List TA):List Leaf:=(l.map el).flatten
def TA.z:TA:=⟨0,0,zT⟩
def at' (l:List TA) (k:Nat):TA:=l.getD k TA.z
def zA258:List Leaf:=li 0::li 0::List.replicate 256 (.v (.int .u8 0))
theorem el_len (e:TA):(el e).length=258:=by simp[el,tl_len]
theorem zA_len:zA258.length=258:=by kernel_rfl
theorem rws_len:∀l:List TA,(rws l).length=258*l.length
 |[]=>rfl
 |e::l=>by
  have:=rws_len l
  simp only[rws,List.map_cons,List.flatten_cons,List.length_append,el_len,List.length_cons] at *
  omega
theorem rws_drop:∀(l:List TA) (k:Nat),k<l.length→∃m,(rws l).drop (k*258)=el (at' l k)++m
 |[],k,h=>by simp at h
 |e::l,0,h=>⟨rws l,by simp[rws,at']⟩
 |e::l,k+1,h=>by
  obtain ⟨m,hm⟩:=rws_drop l k (by simpa using h)
  refine ⟨m,?_⟩
  have:(rws (e::l)).drop ((k+1)*258)=(rws l).drop (k*258):=by
   simp only[rws,List.map_cons,List.flatten_cons]
   rw[List.drop_append,List.drop_eq_nil_of_le (by rw[el_len];omega),List.nil_append,el_len,show (k+1)*258-258=k*258 by omega]
  rw[this,hm]
  rfl
theorem rws_at {l:List TA} {k:Nat} (h:k<l.length):List.take 258 (List.drop (k*258) (rws l))=el (at' l k):=by
 obtain ⟨m,hm⟩:=rws_drop l k h
 rw[hm,List.take_append_of_le_length (by rw[el_len];exact Nat.le_refl _),List.take_of_length_le (by rw[el_len];exact Nat.le_refl _)]
theorem rws_pos {l:List TA} {k:Nat} (h:k<l.length):List.take 2 (List.drop (k*258) (rws l))=[li (at' l k).X,li (at' l k).Y]:=by
 obtain ⟨m,hm⟩:=rws_drop l k h
 rw[hm];rfl
theorem splice_full:∀(m z:List Leaf) (p:List Leaf),z.length=m.length→splice (p++z) p.length m=p++m
 |[],z,p,h=>by
  have:z=[]:=List.eq_nil_of_length_eq_zero h
  subst this;rfl
 |a::m,b::z,p,h=>by
  have:=splice_full m z (p++[a]) (by simpa using h)
  rw[splice,List.set_append_right _ _ (Nat.le_refl _),Nat.sub_self,List.set_cons_zero]
  simpa using this
 |a::m,[],p,h=>by simp at h
theorem splice_all {m z:List Leaf} (h:z.length=m.length):splice z 0 m=m:=splice_full m z [] h
theorem put_el (e:TA):splice zA258 0 (el e)=el e:=splice_all (by rw[zA_len,el_len])
theorem rnLs_plain (ρ:Nat→Option Nat):∀l:List Leaf,(∀x∈l,∃v,x=.v v)→rnLs ρ l=some l
 |[],_=>rfl
 |x::l,h=>by
  obtain ⟨v,rfl⟩:=h x (by simp)
  simp[rnLs,Leaf.rn,rnLs_plain ρ l fun y hy=>h y (by simp[hy])]
theorem tl_plain (t:Nat→UInt8):∀x∈tl t,∃v,x=.v v:=by
 intro x hx
 simp only[tl,List.mem_map] at hx
 obtain ⟨i,_,rfl⟩:=hx
 exact ⟨_,rfl⟩
theorem rws_plain (l:List TA):∀x∈rws l,∃v,x=.v v:=by
 intro x hx
 simp only[rws,List.mem_flatten,List.mem_map] at hx
 obtain ⟨m,⟨e,_,rfl⟩,hx⟩:=hx
 simp only[el,List.mem_cons] at hx
 rcases hx with rfl|rfl|hx
 ·exact ⟨_,rfl⟩
 ·exact ⟨_,rfl⟩
 ·exact tl_plain _ x hx
theorem rn_rws (ρ:Nat→Option Nat) (l:List TA):rnLs ρ (rws l)=some (rws l):=rnLs_plain ρ _ (rws_plain l)
theorem blt_rws (n:Nat) (l:List TA) {t:BT} (h:(t.rn (rnId n 0 [])).isSome=true):blkLt n ⟨rws l,t⟩=true:=by
 unfold blkLt;rw[rn_rws,h];rfl
structure Good (l:List TA):Prop where
 len:l.length≤1024
 inn:∀k,k<l.length→inB (at' l k).X (at' l k).Y=true
 nz:∀k,k<l.length→zeroT (at' l k).t=false
 cl:∀k,k<l.length→sameT (clnT (at' l k).t) (at' l k).t=true
 ord:∀k,k+1<l.length→(at' l k).Y<(at' l (k+1)).Y∨((at' l k).Y=(at' l (k+1)).Y∧(at' l k).X<(at' l (k+1)).X)
end Ab
end Go.Proofs.YtpdckpifhniioaaGreat
end
section
set_option linter.unusedVariables false
set_option linter.unusedSimpArgs false
namespace Go.Proofs.YtpdckpifhniioaaGreat
open Go.RowKit
namespace Ab
def I46 (l:List TA) (k:Nat):St:=⟨[(12,iv .i64 (k:Nat)),(11,iv .i64 (l.length:Nat)),(10,.c (.l (.o 0 l.length))),(1,.c (.l (.p 1 0)))],[(0,some ⟨rws l,.r 42 258 0⟩),(1,some ⟨[.o 0 l.length],.t 26⟩)],2,52,[2,1],(1)⟩
theorem tn (k:Nat):((k:Nat):Int).toNat=k:=rfl
theorem kprev {k:Nat} (h:0<k):(((k:Nat):Int)-1).toNat=k-1:=by omega
theorem good_prev {l:List TA} (hg:Good l) {k:Nat} (hk:k<l.length) (h:0<k):ordI (at' l (k-1)).X (at' l (k-1)).Y (at' l k).X (at' l k).Y<0:=by
 have:=hg.ord (k-1) (by omega)
 rw[show k-1+1=k by omega] at this
 exact ord_lt this
theorem gk {k:Nat} (h:(!false&&decide (((k:Nat):Int)>0))=true):0<k:=by
 simp at h;omega
def cz_R46 (l:List TA) (k:Nat):Cz:={
 ct:=(fun f=>match f with
 |66=>some fun _ _S ar=>match ar with | [.c (.agg l)]=>some {v:=.c (.agg (tl (clnT (lsB l)))),rd:=[],wr:=[],nw:=0}|_=>none
 |107=>some fun _ _S ar=>match ar with | [.c (.agg [.v (.int _ ax),.v (.int _ ay)])]=>some {v:=bv (inB ax ay),rd:=[],wr:=[],nw:=0}|_=>none
 |108=>some fun _ _S ar=>match ar with | [.c (.agg l)]=>some {v:=bv (zeroT (lsB l)),rd:=[],wr:=[],nw:=0}|_=>none
 |109=>some fun _ _S ar=>match ar with | [.c (.agg [.v (.int _ ax),.v (.int _ ay)]),.c (.agg [.v (.int _ cx),.v (.int _ cy)])]=>some {v:=iv .i64 (ordI ax ay cx cy),rd:=[],wr:=[],nw:=0}|_=>none
 |_=>none)
 eq:=(fun t=>match t with
 |38=>some (fun xs ys=>sameT (lsB xs) (lsB ys))
 |_=>none)
 raw:=[],sym:=[15,16,42,44],nf:=[(16,.c (.agg (el (at' l k)))),(18,.c (.agg [li (at' l k).X,li (at' l k).Y])),(20,bv false),(23,.c (.agg (tl (at' l k).t))),(24,bv false),(25,bv false),(28,.c (.agg (tl (at' l k).t))),(29,.c (.agg (tl (clnT (at' l k).t)))),(31,.c (.agg (tl (at' l k).t))),(32,bv false),(33,bv false),(44,.c (.agg [li (at' l (k-1)).X,li (at' l (k-1)).Y])),(46,.c (.agg [li (at' l k).X,li (at' l k).Y])),(48,bv false),(49,bv false),(50,bv false)],ap:=true,off:=[],on:=[],lp:=fun _=>none,un:=0}
set_option maxRecDepth 100000 in
theorem R46 (l:List TA) (k:Nat)  (K:Exit→St→Prop) (h:HB (decide ((Nat.cast k:Int)<(Nat.cast l.length:Int))) (InR ((Nat.cast k:Int)) l.length∧((Nat.cast k:Int)).toNat*258+258≤(Blk.mk (rws l) (BT.r 42 258 0)).cs.length∧Le (ag (List.take 258 (List.drop (((Nat.cast k:Int)).toNat*258) (rws l)))) (ag (el (at' l k)))∧Le (ag (List.take 2 (List.drop 0 (splice zA258 0 (el (at' l k)))))) (ag [li (at' l k).X,li (at' l k).Y])∧CallOKd Tryz.prog 107 [] [ag [li (at' l k).X,li (at' l k).Y]] [] 3 (bv (inB (at' l k).X (at' l k).Y)) [] 0∧Le (bv !inB (at' l k).X (at' l k).Y) (bv false)∧((!false)=true→(!false)=true∧Le (ag (List.take 256 (List.drop 2 (splice zA258 0 (el (at' l k)))))) (ag (tl (at' l k).t))∧True)∧((!false)=true→(!false)=true∧CallOKd Tryz.prog 108 [] [ag (tl (at' l k).t)] [] 3 (bv (zeroT (lsB (tl (at' l k).t)))) [] 0∧Le (bv (zeroT (lsB (tl (at' l k).t)))) (bv false)∧True)∧(false=false→(!false)=true)∧Le (bv (bif false then true else false)) (bv false)∧((!false)=true→(!false)=true∧Le (ag (List.take 256 (List.drop 2 (splice zA258 0 (el (at' l k)))))) (ag (tl (at' l k).t))∧True)∧((!false)=true→(!false)=true∧CallOKd Tryz.prog 66 [] [ag (tl (at' l k).t)] [] 3 (ag (tl (clnT (lsB (tl (at' l k).t))))) [] 0∧Le (ag (tl (clnT (lsB (tl (at' l k).t))))) (ag (tl (clnT (at' l k).t)))∧True)∧((!false)=true→(!false)=true∧Le (ag (List.take 256 (List.drop 2 (splice zA258 0 (el (at' l k)))))) (ag (tl (at' l k).t))∧True)∧((!false)=true→(!false)=true∧(!false)=true∧EqOK Tryz.prog 38 (tl (clnT (at' l k).t)) (tl (at' l k).t) (sameT (lsB (tl (clnT (at' l k).t))) (lsB (tl (at' l k).t)))∧Le (bv !sameT (lsB (tl (clnT (at' l k).t))) (lsB (tl (at' l k).t))) (bv false)∧True)∧(false=false→(!false)=true)∧Le (bv (bif false then true else false)) (bv false)∧((!false)=true→(!false)=true∧True)∧((!false)=true→(!false)=true∧True)∧((!false&&decide ((Nat.cast k:Int)>0))=true→(!false&&decide ((Nat.cast k:Int)>0))=true∧True)∧((!false&&decide ((Nat.cast k:Int)>0))=true→(!false&&decide ((Nat.cast k:Int)>0))=true∧IntKind.i64.wrap ((Nat.cast k:Int)-1)=(Nat.cast k:Int)-1∧True)∧((!false&&decide ((Nat.cast k:Int)>0))=true→(!false&&decide ((Nat.cast k:Int)>0))=true∧(!false&&decide ((Nat.cast k:Int)>0))=true∧InR ((Nat.cast k:Int)-1) l.length∧True)∧((!false&&decide ((Nat.cast k:Int)>0))=true→(!false&&decide ((Nat.cast k:Int)>0))=true∧True)∧((!false&&decide ((Nat.cast k:Int)>0))=true→(!false&&decide ((Nat.cast k:Int)>0))=true∧((Nat.cast k:Int)-1).toNat*258+0+2≤(Blk.mk (rws l) (BT.r 42 258 0)).cs.length∧Le (ag (List.take 2 (List.drop (((Nat.cast k:Int)-1).toNat*258+0) (rws l)))) (ag [li (at' l (k-1)).X,li (at' l (k-1)).Y])∧True)∧((!false&&decide ((Nat.cast k:Int)>0))=true→(!false&&decide ((Nat.cast k:Int)>0))=true∧Le (ag (List.take 2 (List.drop 0 (splice zA258 0 (el (at' l k)))))) (ag [li (at' l k).X,li (at' l k).Y])∧True)∧((!false&&decide ((Nat.cast k:Int)>0))=true→(!false&&decide ((Nat.cast k:Int)>0))=true∧(!false&&decide ((Nat.cast k:Int)>0))=true∧CallOKd Tryz.prog 109 [] [ag [li (at' l (k-1)).X,li (at' l (k-1)).Y],ag [li (at' l k).X,li (at' l k).Y]] [] 3 (iv IntKind.i64 (ordI (at' l (k-1)).X (at' l (k-1)).Y (at' l k).X (at' l k).Y)) [] 0∧True)∧((!false&&decide ((Nat.cast k:Int)>0))=true→(!false&&decide ((Nat.cast k:Int)>0))=true∧Le (bv (decide (ordI (at' l (k-1)).X (at' l (k-1)).Y (at' l k).X (at' l k).Y≥0))) (bv false)∧True)∧((!false)=true→(!false)=true∧(decide ((Nat.cast k:Int)>0)=true→(!false&&decide ((Nat.cast k:Int)>0))=true)∧Le (bv (bif decide ((Nat.cast k:Int)>0) then false else false)) (bv false)∧True)∧(false=false→(!false)=true)∧Le (bv (bif false then true else false)) (bv false)∧IntKind.i64.wrap ((Nat.cast k:Int)+1)=(Nat.cast k:Int)+1∧RoundTo Tryz.prog ((getLoop 4 (Tryz.f46.body.getD Code.skip)).getD Code.skip) 2 (wkK 2 K) (St.mk [(1,SV.c (Cp.l (Leaf.p 1 0))),(10,SV.c (Cp.l (Leaf.o 0 l.length))),(11,iv IntKind.i64 (Nat.cast l.length:Int)),(12,iv IntKind.i64 ((Nat.cast k:Int)+1))] [(0,some (Blk.mk (rws l) (BT.r 42 258 0))),(1,some (Blk.mk [Leaf.o 0 l.length] (BT.t 26))),(2,some (Blk.mk (splice zA258 0 (el (at' l k))) (BT.t 42)))] 3 52 [2,2,2,1] 1)) (wkK 2 K (Exit.exit 0) (St.mk [(1,SV.c (Cp.l (Leaf.p 1 0))),(10,SV.c (Cp.l (Leaf.o 0 l.length))),(11,iv IntKind.i64 (Nat.cast l.length:Int)),(12,iv IntKind.i64 (Nat.cast k:Int))] [(0,some (Blk.mk (rws l) (BT.r 42 258 0))),(1,some (Blk.mk [Leaf.o 0 l.length] (BT.t 26))),(2,none)] 2 52 [2,1] 1))):WPL Tryz.prog ((getLoop 4 (Tryz.f46.body.getD .skip)).getD .skip) (I46 l k) (wkK 2 K):=
 wp_roundT [1,10,11,12] [0,1,2] (cx:=cz_R46 l k) rfl (of_eq (by kernel_rfl) h)
set_option maxRecDepth 100000 in
theorem L46 (l:List TA) (hg:Good l):∀(m k:Nat),l.length-k=m→k≤l.length→∀(K:Exit→St→Prop),K (.exit 0) (I46 l l.length)→WPL Tryz.prog ((getLoop 4 (Tryz.f46.body.getD .skip)).getD .skip) (I46 l k) (wkK 2 K)
 |0,k,hm,hk,K,hK=>by
  have e:k=l.length:=by omega
  subst e
  refine R46 l _ K (HB.mk (fun hne=>absurd (of_decide_eq_true hne) (by omega)) (fun he=>?_))
  exact wkK.to (I46 l _) (Nat.le_refl _) (by kernel_rfl) (wkE_cons (LeN.sl (by kernel_rfl) rfl) (wkE_cons (LeN.sl (by kernel_rfl) rfl) (wkE_cons (LeN.sl (by kernel_rfl) rfl) (wkE_cons (LeN.sl (by kernel_rfl) rfl) trivial)))) (wkH_cons (BkN.blk (k:=⟨rws l,.r 42 258 0⟩) (by kernel_rfl) rfl (blt_rws _ _ rfl)) (wkH_cons (BkN.blk (k:=⟨[.o 0 l.length],.t 26⟩) (by kernel_rfl) (rfl) (by kernel_rfl)) trivial)) hK
 |m+1,k,hm,hk,K,hK=>by
  refine R46 l k K (HB.mk (fun hne=>?_) (fun he=>absurd (show ((k:Nat):Int)<(l.length:Nat) by omega) (of_decide_eq_false he)))
  have hlt:k<l.length:=by omega
  have hlen:=hg.len
  repeat' (first|exact trivial|with_reducible apply And.intro|(with_reducible apply HB.mk)|with_reducible intro _)
  all_goals first
   |(assumption)
   |((exact C66L _ _ rfl _))
   |(with_reducible exact C107 _ _ _)
   |((exact C108L _ _ rfl _))
   |(with_reducible exact C109 _ _ _ _ _)
   |(exact ⟨by omega,by omega⟩)
   |(exact ⟨by have:=gk ‹_›;omega,by omega⟩)
   |((rw[rws_len,tn];omega))
   |((have:=gk ‹_›;rw[rws_len,kprev this];omega))
   |((refine Le.of ?_;simp only[tn,Nat.zero_add,Nat.add_zero];rw[rws_at hlt]))
   |((refine Le.of ?_;rw[put_el];rfl))
   |((have:=gk ‹_›;refine Le.of ?_;simp only[kprev this,Nat.zero_add,Nat.add_zero];rw[rws_pos (by omega)]))
   |(exact Le.bool (by rw[hg.inn k hlt];rfl))
   |((refine Le.bool ?_;rw[show zeroT (lsB (tl (at' l k).t))=zeroT (at' l k).t from sameT_congr (fun i hi=>by unfold clnT;rw[lsB_tl _ hi,lsB_tl _ (by omega)]) (fun i hi=>rfl),hg.nz k hlt]))
   |(exact Le.bool rfl)
   |(exact Le.of (by rw[cln_lsB]))
   |(exact eq38L rfl rfl)
   |(exact Le.bool (by rw[same_lsB,hg.cl k hlt];rfl))
   |((have:=gk ‹_›;exact okw _ (by omega) (by omega)))
   |((refine Le.bool (decide_eq_false ?_);have h1:=good_prev hg hlt (gk ‹_›);omega))
   |((refine Le.bool ?_;cases decide (((k:Nat):Int)>0)<;>rfl))
   |(refine RoundTo.to (I46 l (k+1)) (Nat.le_refl _) (by kernel_rfl) (wkE_cons (LeN.sl (by kernel_rfl) rfl) (wkE_cons (LeN.sl (by kernel_rfl) rfl) (wkE_cons (LeN.sl (by kernel_rfl) rfl) (wkE_cons (LeN.sl (by kernel_rfl) rfl) trivial)))) (wkH_cons (BkN.blk (k:=⟨rws l,.r 42 258 0⟩) (by kernel_rfl) rfl (blt_rws _ _ rfl)) (wkH_cons (BkN.blk (k:=⟨[.o 0 l.length],.t 26⟩) (by kernel_rfl) (rfl) (by kernel_rfl)) trivial)) (L46 l hg m (k+1) (by omega) (by omega) K hK))
   |(exact okw _ (by omega) (by omega))
   |(simp only[*,Bool.and_self,Bool.not_false,Bool.not_true];done)
theorem enters46:Enters Tryz.prog 46:=fun args w=>by go_simp
def cz_C46 (l:List TA):Cz:={
 ct:=(fun f=>match f with
 |66=>some fun _ _S ar=>match ar with | [.c (.agg l)]=>some {v:=.c (.agg (tl (clnT (lsB l)))),rd:=[],wr:=[],nw:=0}|_=>none
 |107=>some fun _ _S ar=>match ar with | [.c (.agg [.v (.int _ ax),.v (.int _ ay)])]=>some {v:=bv (inB ax ay),rd:=[],wr:=[],nw:=0}|_=>none
 |108=>some fun _ _S ar=>match ar with | [.c (.agg l)]=>some {v:=bv (zeroT (lsB l)),rd:=[],wr:=[],nw:=0}|_=>none
 |109=>some fun _ _S ar=>match ar with | [.c (.agg [.v (.int _ ax),.v (.int _ ay)]),.c (.agg [.v (.int _ cx),.v (.int _ cy)])]=>some {v:=iv .i64 (ordI ax ay cx cy),rd:=[],wr:=[],nw:=0}|_=>none
 |_=>none)
 eq:=(fun t=>match t with
 |38=>some (fun xs ys=>sameT (lsB xs) (lsB ys))
 |_=>none)
 raw:=[],sym:=[],nf:=[(8,bv false)],ap:=true,off:=[],on:=[],lp:=fun r=>match r with|4=>some (fun _ K=>K (.exit 0) (I46 l l.length))|_=>none,un:=0}
set_option maxRecDepth 100000 in
set_option maxHeartbeats 400000 in
theorem C46 (l:List TA) (hg:Good l):CallOK Tryz.prog 46 [.c (.agg [.o 0 l.length])] [(0,⟨rws l,.r 42 258 0⟩)] 1 (bv true) [] ([]:List Nat).length:=by
 have hlen:=hg.len
 refine call_ok (cx:=cz_C46 l) (nm:=[]) rfl Tryz.func46 (body:=Tryz.f46.body.getD .skip) rfl enters46 (by unfold inck;simp only[List.all_cons,List.all_nil,blt_rws _ _ (show (BT.rn (rnId 1 0 []) (.r 42 258 0)).isSome=true from rfl),Bool.and_true,Bool.true_and];kernel_rfl) ?_
 apply of_eq (q:=Le (bv (decide ((Nat.cast l.length:Int)>1024))) (bv false)∧(LoopOK Tryz.prog ((getLoop 4 (Tryz.f46.body.getD .skip)).getD .skip) (St.mk [(12,iv IntKind.i64 0),(11,iv IntKind.i64 (Nat.cast l.length:Int)),(10,SV.c (Cp.l (Leaf.o 0 l.length))),(9,SV.c (Cp.l (Leaf.p 1 0))),(8,bv false),(7,iv IntKind.i64 (Nat.cast l.length:Int)),(6,SV.c (Cp.l (Leaf.o 0 l.length))),(5,SV.c (Cp.l (Leaf.p 1 0))),(2,bv false),(1,SV.c (Cp.l (Leaf.p 1 0))),(0,ag [Leaf.o 0 l.length])] [(1,some (Blk.mk [Leaf.o 0 l.length] (BT.t 26))),(0,some (Blk.mk (rws l) (BT.r 42 258 0)))] 2 52 [1] 1) fun K=>K (Exit.exit 0) (I46 l l.length))∧Le (bv true) (bv true)∧True) (by kernel_rfl)
 repeat' (first|exact trivial|with_reducible apply And.intro|(with_reducible apply HB.mk)|with_reducible intro _)
 all_goals first
  |(with_reducible exact Le.refl _)
  |(exact LoopOK.mk (I46 l 0) rfl (by kernel_rfl) (wkE_cons (LeN.sl (by kernel_rfl) rfl) (wkE_cons (LeN.sl (by kernel_rfl) rfl) (wkE_cons (LeN.sl (by kernel_rfl) rfl) (wkE_cons (LeN.sl (by kernel_rfl) rfl) trivial)))) (wkH_cons (BkN.blk (k:=⟨rws l,.r 42 258 0⟩) (by kernel_rfl) rfl (blt_rws _ _ rfl)) (wkH_cons (BkN.blk (k:=⟨[.o 0 l.length],.t 26⟩) (by kernel_rfl) (rfl) (by kernel_rfl)) trivial)) (fun K hT=>L46 l hg _ 0 rfl (Nat.zero_le _) K hT))
  |((refine Le.bool (decide_eq_false ?_);omega))
end Ab
end Go.Proofs.YtpdckpifhniioaaGreat
end
section
set_option linter.unusedVariables false
set_option linter.unusedSimpArgs false
namespace Go.Proofs.YtpdckpifhniioaaGreat.Cod
open Go.RowKit
open Go.Proofs.YtpdckpifhniioaaGreat
section
namespace M
structure St where
 p:Nat→Int
 lo:Int
 hi:Int
def put (f:Nat→Int) (i:Nat) (v:Int):Nat→Int:=fun k=>if k=i then v else f k
structure Ok (s:St):Prop where
 p:∀c,31≤s.p c∧s.p c≤4065
 lo:0≤s.lo
 le:s.lo≤s.hi
 hi:s.hi≤4294967295
 ne:s.lo / 16777216≠s.hi / 16777216
def start:St:=⟨fun _=>2048,0,4294967295⟩
theorem start_ok:Ok start:=⟨fun _=>⟨by show (31:Int)≤2048;decide,by show (2048:Int)≤4065;decide⟩,by decide,by decide,by decide,by decide⟩
def md (s:St) (c:Nat):Int:=s.lo+(s.hi-s.lo) / 4096*s.p c
theorem Ok.lt {s:St} (h:Ok s):s.lo<s.hi:=by
 have:=h.le
 have:=h.ne
 rcases Int.lt_or_eq_of_le h.le with h1|h1
 ·exact h1
 ·exact absurd (by rw[h1]) h.ne
theorem md_bd {s:St} (h:Ok s) (c:Nat):0≤(s.hi-s.lo) / 4096*s.p c∧(s.hi-s.lo) / 4096*s.p c<s.hi-s.lo:=by
 have h1:=h.lt
 obtain ⟨p1,p2⟩:=h.p c
 have q0:0≤(s.hi-s.lo) / 4096:=Int.ediv_nonneg (by omega) (by omega)
 have q1:4096*((s.hi-s.lo) / 4096)≤s.hi-s.lo:=Int.mul_ediv_self_le (by omega)
 generalize (s.hi-s.lo) / 4096=q at *
 have a1:0≤q*s.p c:=Int.mul_nonneg q0 (by omega)
 have a2:q*s.p c≤q*4065:=Int.mul_le_mul_of_nonneg_left p2 q0
 exact ⟨a1,by omega⟩
theorem md_in {s:St} (h:Ok s) (c:Nat):s.lo≤md s c∧md s c<s.hi:=by
 have:=md_bd h c
 unfold md;omega
def np (x:Int) (b:Int):Int:=if b=1 then x+(4096-x) / 32 else x-x / 32
theorem np_bd {x:Int} (h:31≤x∧x≤4065) (b:Int):31≤np x b∧np x b≤4065:=by
 unfold np;split<;>omega
def byt (l:Int):UInt8:=UInt8.ofNat (l / 16777216).toNat
theorem byt_val {l:Int} (h0:0≤l) (h1:l≤4294967295):((byt l).toNat:Int)=l / 16777216:=by
 unfold byt
 have:(l / 16777216).toNat<256:=by omega
 rw[UInt8.toNat_ofNat']
 rw[Nat.mod_eq_of_lt (by simpa using this)]
 omega
def shs:Nat→Int→Int→List UInt8×Int×Int
 |0,l,h=>([],l,h)
 |f+1,l,h=>if l / 16777216=h / 16777216 then (byt l::(shs f (l*256 % 4294967296) ((h*256+255) % 4294967296)).1,(shs f (l*256 % 4294967296) ((h*256+255) % 4294967296)).2) else ([],l,h)
theorem shs_eq (f:Nat) (l h:Int) (e:l / 16777216=h / 16777216):shs (f+1) l h=(byt l::(shs f (l*256 % 4294967296) ((h*256+255) % 4294967296)).1,(shs f (l*256 % 4294967296) ((h*256+255) % 4294967296)).2):=by
 rw[shs,if_pos e]
theorem shs_ne (f:Nat) (l h:Int) (e:l / 16777216≠h / 16777216):shs f l h=([],l,h):=by
 cases f with
 |zero=>rfl
 |succ f=>rw[shs,if_neg e]
def Cg (f:Nat) (l h:Int):Prop:=
 match f with
 |0=>l % 4294967296=0∧h % 4294967296=4294967295
 |1=>l % 16777216=0∧h % 16777216=16777215
 |2=>l % 65536=0∧h % 65536=65535
 |3=>l % 256=0∧h % 256=255
 |_=>True
structure Iv (f:Nat) (l h:Int):Prop where
 bd:f≤4
 lo:0≤l
 le:l≤h
 hi:h≤4294967295
 cg:Cg f l h
theorem Iv.next {f:Nat} {l h:Int} (i:Iv (f+1) l h) (e:l / 16777216=h / 16777216):Iv f (l*256 % 4294967296) ((h*256+255) % 4294967296):=by
 obtain ⟨h1,h2,h3,h4,h5⟩:=i
 refine ⟨by omega,by omega,by omega,by omega,?_⟩
 obtain rfl|rfl|rfl|rfl:f=0∨f=1∨f=2∨f=3:=by omega
 all_goals (simp only[Cg] at h5⊢)
 ·omega
 ·omega
 ·omega
 ·omega
theorem Iv.stop {l h:Int} (i:Iv 0 l h):l / 16777216≠h / 16777216:=by
 obtain ⟨h1,h2,h3,h4,h5⟩:=i
 simp only[Cg] at h5
 omega
theorem shs_ok:∀(f:Nat) (l h:Int),Iv f l h→0≤(shs f l h).2.1∧(shs f l h).2.1≤(shs f l h).2.2∧(shs f l h).2.2≤4294967295∧(shs f l h).2.1 / 16777216≠(shs f l h).2.2 / 16777216
 |0,l,h,i=>⟨i.lo,i.le,i.hi,i.stop⟩
 |f+1,l,h,i=>by
  by_cases e:l / 16777216=h / 16777216
  ·rw[shs_eq f l h e]
   exact shs_ok f _ _ (i.next e)
  ·rw[shs_ne _ l h e]
   exact ⟨i.lo,i.le,i.hi,e⟩
def lo1 (s:St) (c:Nat) (b:Int):Int:=if b=1 then s.lo else md s c+1
def hi1 (s:St) (c:Nat) (b:Int):Int:=if b=1 then md s c else s.hi
theorem iv1 {s:St} (h:Ok s) (c:Nat) (b:Int):Iv 4 (lo1 s c b) (hi1 s c b):=by
 have:=md_in h c
 have:=h.lo
 have:=h.hi
 unfold lo1 hi1
 refine ⟨by omega,?_,?_,?_,trivial⟩<;>split<;>omega
def outB (s:St) (c:Nat) (b:Int):List UInt8:=(shs 4 (lo1 s c b) (hi1 s c b)).1
def nxt (s:St) (c:Nat) (b:Int):St:=⟨put s.p c (np (s.p c) b),(shs 4 (lo1 s c b) (hi1 s c b)).2.1,(shs 4 (lo1 s c b) (hi1 s c b)).2.2⟩
theorem nxt_ok {s:St} (h:Ok s) (c:Nat) (b:Int):Ok (nxt s c b):=by
 obtain ⟨h1,h2,h3,h4⟩:=shs_ok 4 _ _ (iv1 h c b)
 refine ⟨fun k=>?_,h1,h2,h3,h4⟩
 show 31≤put s.p c (np (s.p c) b) k∧put s.p c (np (s.p c) b) k≤4065
 unfold put
 split
 ·exact np_bd (h.p c) b
 ·exact h.p k
theorem shs_len:∀(f:Nat) (l h:Int),(shs f l h).1.length≤f
 |0,_,_=>Nat.le_refl _
 |f+1,l,h=>by
  by_cases e:l / 16777216=h / 16777216
  ·rw[shs_eq f l h e]
   have:=shs_len f (l*256 % 4294967296) ((h*256+255) % 4294967296)
   simp;omega
  ·rw[shs_ne _ l h e];simp
theorem outB_len (s:St) (c:Nat) (b:Int):(outB s c b).length≤4:=shs_len 4 _ _
def runS:St→List (Nat×Int)→St
 |s,[]=>s
 |s,x::l=>runS (nxt s x.1 x.2) l
def runO:St→List (Nat×Int)→List UInt8
 |_,[]=>[]
 |s,x::l=>outB s x.1 x.2++runO (nxt s x.1 x.2) l
theorem runS_append:∀(l m:List (Nat×Int)) (s:St),runS s (l++m)=runS (runS s l) m
 |[],_,_=>rfl
 |x::l,m,s=>runS_append l m _
theorem runO_append:∀(l m:List (Nat×Int)) (s:St),runO s (l++m)=runO s l++runO (runS s l) m
 |[],_,_=>rfl
 |x::l,m,s=>by
  show outB s x.1 x.2++runO _ (l++m)=_
  rw[runO_append l m]
  show _=(outB s x.1 x.2++runO _ l)++_
  rw[List.append_assoc];rfl
theorem runO_len:∀(l:List (Nat×Int)) (s:St),(runO s l).length≤4*l.length
 |[],_=>Nat.le_refl _
 |x::l,s=>by
  show (outB s x.1 x.2++runO _ l).length≤_
  have:=runO_len l (nxt s x.1 x.2)
  have:=outB_len s x.1 x.2
  simp;omega
def be4 (x:Int):List UInt8:=[UInt8.ofNat (x / 16777216).toNat,UInt8.ofNat (x / 65536).toNat,UInt8.ofNat (x / 256).toNat,UInt8.ofNat x.toNat]
theorem ofNat_val (n:Nat):((UInt8.ofNat n).toNat:Int)=(n:Int) % 256:=by
 rw[UInt8.toNat_ofNat'];omega
def bitAt (x:Nat) (j:Nat):Nat×Int:=((256+x) / 2 ^ (8-j),((x / 2 ^ (7-j) % 2:Nat):Int))
def byteBits (x:UInt8):List (Nat×Int):=(List.range 8).map (bitAt x.toNat)
def encBits (s:List UInt8):List (Nat×Int):=s.flatMap byteBits
def code (l:List (Nat×Int)):List UInt8:=runO start l++be4 (runS start l).lo
def enc (s:List UInt8):List UInt8:=code (encBits s)
theorem bitAt_bit (x j:Nat):(bitAt x j).2=0∨(bitAt x j).2=1:=by unfold bitAt;dsimp only;omega
theorem encBits_append (s t:List UInt8):encBits (s++t)=encBits s++encBits t:=List.flatMap_append
theorem encBits_len (s:List UInt8):(encBits s).length=8*s.length:=by
 induction s with
 |nil=>rfl
 |cons x s ih=>show (byteBits x++encBits s).length=_;rw[List.length_append,ih];simp[byteBits];omega
end M
end
section
namespace M
theorem code_len (l:List (Nat×Int)):(code l).length=(runO start l).length+4:=by
 unfold code;rw[List.length_append];rfl
theorem code_bd (l:List (Nat×Int)):(code l).length≤4*l.length+4:=by
 rw[code_len];have:=runO_len l start;omega
theorem enc_bd (s:List UInt8):(enc s).length≤32*s.length+4:=by
 have:=code_bd (encBits s)
 rw[encBits_len] at this
 show (code _).length≤_;omega
end M
end
section
namespace M
end M
end
end Go.Proofs.YtpdckpifhniioaaGreat.Cod
end
