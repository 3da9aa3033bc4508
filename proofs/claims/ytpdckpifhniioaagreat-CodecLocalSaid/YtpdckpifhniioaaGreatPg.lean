/- Part 7 of what CodecLocal rests on. -/
import Derived.Test.YtpdckpifhniioaaGreatProg
import Derived.WalkKit
import Derived.Test.YtpdckpifhniioaaGreatPb
import Derived.Test.YtpdckpifhniioaaGreatPf
section
set_option linter.unusedVariables false
namespace Go.Proofs.YtpdckpifhniioaaGreat
open Go.RowKit
namespace Ab
def Leaf.ren (σ:Nat→Nat):Leaf→Leaf
 |.v x=>.v x
 |.p id off=>.p (σ id) off
 |.f fn caps=>.f fn (caps.map fun c=>(σ c.1,c.2))
 |.s id off len=>.s (σ id) off len
 |.o id len=>.o (σ id) len
 |.u=>.u
def Cp.ren (σ:Nat→Nat):Cp→Cp
 |.l x=>.l (x.ren σ)
 |.agg xs=>.agg (xs.map (Leaf.ren σ))
def SV.ren (σ:Nat→Nat):SV→SV
 |.u=>.u
 |.c x=>.c (x.ren σ)
 |.tup xs=>.tup (xs.map (Cp.ren σ))
 |.g b x=>.g b (x.ren σ)
def BT.ren (σ:Nat→Nat):BT→BT
 |.t n=>.t n
 |.r n sz id=>.r n sz (σ id)
 |.y n=>.y n
 |.e n=>.e n
 |.x=>.x
 |.q=>.q
def Blk.ren (σ:Nat→Nat) (k:Blk):Blk:=⟨k.cs.map (Leaf.ren σ),k.ty.ren σ⟩
def Bt.of (β:Bt) (σ:Nat→Nat):Bt:=⟨fun i=>β (σ i),fun i=>β.c (σ i)⟩
theorem all2_mapl {α β γ:Type} {R:γ→β→Prop} (f:α→γ):∀ {l:List α} {m:List β},All2 R (l.map f) m↔All2 (fun a b=>R (f a) b) l m
 |[],[]=>Iff.rfl
 |[],_::_=>Iff.rfl
 |_::_,[]=>Iff.rfl
 |a::l,b::m=>by simp only[List.map_cons,All2,all2_mapl f (l:=l) (m:=m)]
theorem all2_iff {α β:Type} {R S:α→β→Prop} (h:∀a b,R a b↔S a b):∀ {l:List α} {m:List β},All2 R l m↔All2 S l m
 |[],[]=>Iff.rfl
 |[],_::_=>Iff.rfl
 |_::_,[]=>Iff.rfl
 |a::l,b::m=>by simp only[All2,h,all2_iff h (l:=l) (m:=m)]
section
variable {σ:Nat→Nat} {β:Bt}
theorem Leaf.ren_den (x:Leaf) (y:Value):(x.ren σ).den β y↔x.den (β.of σ) y:=by
 cases x with
 |v a=>exact Iff.rfl
 |p id off=>exact Iff.rfl
 |f fn caps=>
  simp only[Leaf.ren,Leaf.den]
  constructor
  ·rintro ⟨cs,h,e⟩;exact ⟨cs,(all2_mapl _).1 h,e⟩
  ·rintro ⟨cs,h,e⟩;exact ⟨cs,(all2_mapl _).2 h,e⟩
 |s id off len=>exact Iff.rfl
 |o id len=>exact Iff.rfl
 |u=>exact Iff.rfl
theorem Cp.ren_den (x:Cp) (y:Value):(x.ren σ).den β y↔x.den (β.of σ) y:=by
 cases x with
 |l a=>exact Leaf.ren_den a y
 |agg xs=>
  simp only[Cp.ren,Cp.den]
  constructor
  ·rintro ⟨ys,e,h⟩;exact ⟨ys,e,(all2_iff fun a b=>Leaf.ren_den a b).1 ((all2_mapl _).1 h)⟩
  ·rintro ⟨ys,e,h⟩;exact ⟨ys,e,(all2_mapl _).2 ((all2_iff fun a b=>Leaf.ren_den a b).2 h)⟩
theorem SV.ren_den (x:SV) (y:Value):(x.ren σ).den β y↔x.den (β.of σ) y:=by
 cases x with
 |u=>exact Iff.rfl
 |c a=>exact Cp.ren_den a y
 |tup xs=>
  simp only[SV.ren,SV.den]
  constructor
  ·rintro ⟨ys,e,h⟩;exact ⟨ys,e,(all2_iff fun a b=>Cp.ren_den a b).1 ((all2_mapl _).1 h)⟩
  ·rintro ⟨ys,e,h⟩;exact ⟨ys,e,(all2_mapl _).2 ((all2_iff fun a b=>Cp.ren_den a b).2 h)⟩
 |g b a=>simp only[SV.ren,SV.den,Cp.ren_den]
theorem BT.ren_ty (t:BT):(t.ren σ).ty=t.ty∧((t.ren σ=.x↔t=.x)∧(t.ren σ=.q↔t=.q))∧(∀l m,(t.ren σ).room β l m↔t.room (β.of σ) l m)∧∀m,(t.ren σ).fr m=t.fr m:=by
 cases t with
 |t n=>exact ⟨rfl,⟨⟨fun h=>(by cases h),fun h=>(by cases h)⟩,⟨fun h=>(by cases h),fun h=>(by cases h)⟩⟩,fun _ _=>Iff.rfl,fun _=>rfl⟩
 |e n=>exact ⟨rfl,⟨⟨fun h=>(by cases h),fun h=>(by cases h)⟩,⟨fun h=>(by cases h),fun h=>(by cases h)⟩⟩,fun _ _=>Iff.rfl,fun _=>rfl⟩
 |r n sz id=>exact ⟨rfl,⟨⟨fun h=>(by cases h),fun h=>(by cases h)⟩,⟨fun h=>(by cases h),fun h=>(by cases h)⟩⟩,fun _ _=>Iff.rfl,fun _=>rfl⟩
 |y n=>exact ⟨rfl,⟨⟨fun h=>(by cases h),fun h=>(by cases h)⟩,⟨fun h=>(by cases h),fun h=>(by cases h)⟩⟩,fun _ _=>Iff.rfl,fun _=>rfl⟩
 |q=>exact ⟨rfl,⟨⟨fun h=>(by cases h),fun h=>(by cases h)⟩,Iff.rfl⟩,fun _ _=>Iff.rfl,fun _=>rfl⟩
 |x=>exact ⟨rfl,⟨Iff.rfl,⟨fun h=>(by cases h),fun h=>(by cases h)⟩⟩,fun _ _=>Iff.rfl,fun _=>rfl⟩
theorem Blk.ren_at {x:World} {b:Nat} (k:Blk):BlkAt β x b (k.ren σ)↔BlkAt (β.of σ) x b k:=by
 obtain ⟨q1,q2,q3,q4⟩:=BT.ren_ty (σ:=σ) (β:=β) k.ty
 unfold BlkAt Blk.ren
 simp only[q1,q2.1,q2.2,q3,q4,List.map_eq_nil_iff]
 refine or_congr (or_congr Iff.rfl (and_congr Iff.rfl ?_)) ?_
 ·unfold QC
  constructor
  ·intro h i l hl
   rcases h i (l.ren σ) (by rw[List.getElem?_map,hl];rfl) with h1|⟨y,h1,h2⟩
   ·left;cases l<;>simp_all [Leaf.ren]
   ·exact .inr ⟨y,h1,(Leaf.ren_den l y).1 h2⟩
  ·intro h i l hl
   rw[List.getElem?_map,Option.map_eq_some_iff] at hl
   obtain ⟨z,hz,rfl⟩:=hl
   rcases h i z hz with h1|⟨y,h1,h2⟩
   ·left;rw[h1];rfl
   ·exact .inr ⟨y,h1,(Leaf.ren_den z y).2 h2⟩
 constructor
 ·rintro ⟨ys,zs,h1,h2,h3⟩;exact ⟨ys,zs,h1,(all2_iff fun a b=>Leaf.ren_den a b).1 ((all2_mapl _).1 h2),h3⟩
 ·rintro ⟨ys,zs,h1,h2,h3⟩;exact ⟨ys,zs,h1,(all2_mapl _).2 ((all2_iff fun a b=>Leaf.ren_den a b).2 h2),h3⟩
end
theorem lk_ren {α γ:Type} {σ:Nat→Nat} (hi:∀i j,σ i=σ j→i=j) (f:α→γ):∀(l:List (Nat×α)) (i:Nat),lk (l.map fun p=>(σ p.1,f p.2)) (σ i)=(lk l i).map f
 |[],i=>rfl
 |(k,v)::l,i=>by
  by_cases e:k=i
  ·subst e;rw[List.map_cons,lk_cons_eq,lk_cons_eq];rfl
  ·rw[List.map_cons,lk_cons_ne _ _ (fun h=>e (hi _ _ h)),lk_cons_ne _ _ e];exact lk_ren hi f l i
theorem lk_ren_of {α γ:Type} {σ:Nat→Nat} (f:α→γ):∀(l:List (Nat×α)) (j:Nat) (k:γ),lk (l.map fun p=>(σ p.1,f p.2)) j=some k→∃i,σ i=j
 |[],j,k,h=>by cases h
 |(a,v)::l,j,k,h=>by
  by_cases e:σ a=j
  ·exact ⟨a,e⟩
  ·rw[List.map_cons,lk_cons_ne _ _ e] at h;exact lk_ren_of f l j k h
theorem CallOKd.ren {P:Program} {f:Nat} {dc:List (Nat×Nat×Bool)} {args:List SV} {H:List (Nat×Blk)} {n:Nat} {v:SV} {wr:List (Nat×Blk)} {nw:Nat} (h:CallOKd P f dc args H n v wr nw) (σ:Nat→Nat) (n':Nat)
  (hlo:∀i,i<n→σ i<n') (hhi:∀i,n≤i→σ i=n'+(i-n)) (hin:∀i j,i<n→j<n→σ i=σ j→i=j) :
  CallOKd P f (dc.map fun p=>(σ p.1,p.2)) (args.map (SV.ren σ)) (H.map fun p=>(σ p.1,p.2.ren σ)) n' (v.ren σ) (wr.map fun p=>(σ p.1,p.2.ren σ)) nw:=by
 have hi:∀i j,σ i=σ j→i=j:=by
  intro i j e
  by_cases h1:i<n
  ·by_cases h2:j<n
   ·exact hin i j h1 h2 e
   ·have:=hlo i h1;have:=hhi j (by omega);omega
  ·by_cases h2:j<n
   ·have:=hlo j h2;have:=hhi i (by omega);omega
   ·have:=hhi i (by omega);have:=hhi j (by omega);omega
 refine ⟨h.1,fun β x vals ha hinj hlt hnew hH hdc=>?_⟩
 have key:=h.2 (β.of σ) x vals ((all2_iff fun a b=>SV.ren_den a b).1 ((all2_mapl _).1 ha)) (fun i j b h1 h2=>hi _ _ (hinj _ _ b h1 h2)) (fun i b h1=>hlt _ b h1)
  (fun id h1 h2=>hnew (σ id) (by rw[hhi id h1];omega) (by rw[hhi id h1];omega))
  (fun id b k h1 h2=>(Blk.ren_at k).1 (hH (σ id) b (k.ren σ) h1 (by rw[lk_ren hi (Blk.ren σ),h2];rfl))) (fun p hp w hv=>hdc (σ p.1,p.2) (List.mem_map.2 ⟨p,hp,rfl⟩) w hv)
 refine key.mono ?_
 rintro e x' ⟨y,β₂,rfl,hD⟩
 have hE:∀i b,β i=some b→¬(n'≤i∧i<n'+nw):=fun i b h1 ⟨h2,h3⟩=>by rw[(hnew i h2 h3).1] at h1;cases h1
 have hEc:∀i b,β.c i=some b→¬(n'≤i∧i<n'+nw):=fun i b h1 ⟨h2,h3⟩=>by rw[(hnew i h2 h3).2] at h1;cases h1
 obtain ⟨β₃,hβ₃⟩:∃g:Bt,g=⟨fun j=>if n'≤j∧j<n'+nw then β₂ (n+(j-n')) else β j,fun j=>if n'≤j∧j<n'+nw then β₂.c (n+(j-n')) else β.c j⟩:=⟨_,rfl⟩
 have v3:∀j,β₃ j=if n'≤j∧j<n'+nw then β₂ (n+(j-n')) else β j:=fun j=>by rw[hβ₃]
 have w3:∀j,β₃.c j=if n'≤j∧j<n'+nw then β₂.c (n+(j-n')) else β.c j:=fun j=>by rw[hβ₃]
 have hX:Ext β₂ (β₃.of σ):=by
  refine ⟨fun i b hb=>?_,fun i b hb=>?_⟩
  ·rcases hD.new i b hb with h1|⟨h1,h2,h3⟩
   ·show β₃ (σ i)=_
    rw[v3,if_neg (hE _ _ h1)];exact h1
   ·show β₃ (σ i)=_
    have e:=hhi i h1
    rw[v3,if_pos ⟨by omega,by omega⟩,show n+(σ i-n')=i by omega];exact hb
  ·rcases hD.newc i b hb with h1|⟨h1,h2⟩
   ·show β₃.c (σ i)=_
    rw[w3,if_neg (hEc _ _ h1)];exact h1
   ·show β₃.c (σ i)=_
    have e:=hhi i h1
    rw[w3,if_pos ⟨by omega,by omega⟩,show n+(σ i-n')=i by omega];exact hb
 refine ⟨y,β₃,rfl,⟨(SV.ren_den v y).2 (SV.ext hX hD.den),⟨?_,?_⟩,?_,?_,?_,?_,hD.os,hD.tape,hD.output,hD.size,?_,?_⟩⟩
 ·intro i b hb
  rw[v3,if_neg (hE i b hb)];exact hb
 ·intro i b hb
  rw[w3,if_neg (hEc i b hb)];exact hb
 ·intro i b hb
  rw[v3] at hb
  split at hb
  ·rename_i hr
   rcases hD.new _ b hb with h1|⟨h1,h2,h3⟩
   ·exfalso
    have e:=hhi (n+(i-n')) (by omega)
    rw[show n'+(n+(i-n')-n)=i by omega] at e
    have h1:β (σ (n+(i-n')))=some b:=h1
    rw[e] at h1
    exact hE i b h1 hr
   ·exact .inr ⟨hr.1,hr.2,h3⟩
  ·exact .inl hb
 ·intro i b hb
  rw[w3] at hb
  split at hb
  ·rename_i hr
   exact .inr hr
  ·exact .inl hb
 ·intro i j b hb hc
  rw[v3] at hb hc
  split at hb
  ·rename_i hr
   split at hc
   ·rename_i hs
    have:=hD.inj _ _ b hb hc
    omega
   ·rename_i hs
    exfalso
    rcases hD.new _ b hb with h1|⟨h1,h2,h3⟩
    ·have e:=hhi (n+(i-n')) (by omega)
     rw[show n'+(n+(i-n')-n)=i by omega] at e
     have h1:β (σ (n+(i-n')))=some b:=h1
     rw[e] at h1
     exact hE i b h1 hr
    ·have:=hlt j b hc;omega
  ·rename_i hr
   split at hc
   ·rename_i hs
    exfalso
    rcases hD.new _ b hc with h1|⟨h1,h2,h3⟩
    ·have e:=hhi (n+(j-n')) (by omega)
     rw[show n'+(n+(j-n')-n)=j by omega] at e
     have h1:β (σ (n+(j-n')))=some b:=h1
     rw[e] at h1
     exact hE j b h1 hs
    ·have:=hlt i b hb;omega
   ·exact hinj i j b hb hc
 ·intro i b hb
  rw[v3] at hb
  split at hb
  ·exact hD.lt _ b hb
  ·exact Nat.lt_of_lt_of_le (hlt i b hb) hD.size
 ·intro k hk hne
  refine hD.keep k hk fun id hb=>?_
  have:=hne (σ id) hb
  rw[lk_ren hi (Blk.ren σ)] at this
  cases hq:lk wr id with
  |none=>rfl
  |some q=>rw[hq] at this;cases this
 ·intro i b k hb hk
  obtain ⟨id,rfl⟩:=lk_ren_of (Blk.ren σ) wr i k hk
  rw[lk_ren hi (Blk.ren σ)] at hk
  cases hq:lk wr id with
  |none=>rw[hq] at hk;cases hk
  |some q=>
   rw[hq] at hk
   simp only[Option.map_some,Option.some.injEq] at hk
   subst hk
   have hb2:β₂ id=some b:=by
    rw[v3] at hb
    split at hb
    ·rename_i hr
     have hge:n≤id:=by
      rcases Nat.lt_or_ge id n with h1|h1
      ·have:=hlo id h1;omega
      ·exact h1
     have e:=hhi id hge
     rw[show n+(σ id-n')=id by omega] at hb
     exact hb
    ·exact hD.ext.b id b hb
   refine (Blk.ren_at q).2 ?_
   exact (hD.blk id b q hb2 hq).ext hX rfl
theorem CallOK.ren {P:Program} {f:Nat} {args:List SV} {H:List (Nat×Blk)} {n:Nat} {v:SV} {wr:List (Nat×Blk)} {nw:Nat} (h:CallOK P f args H n v wr nw) (σ:Nat→Nat) (n':Nat)
  (hlo:∀i,i<n→σ i<n') (hhi:∀i,n≤i→σ i=n'+(i-n)) (hin:∀i j,i<n→j<n→σ i=σ j→i=j) :
  CallOK P f (args.map (SV.ren σ)) (H.map fun p=>(σ p.1,p.2.ren σ)) n' (v.ren σ) (wr.map fun p=>(σ p.1,p.2.ren σ)) nw:=CallOKd.ren h σ n' hlo hhi hin
end Ab
end Go.Proofs.YtpdckpifhniioaaGreat
end
section
set_option linter.unusedVariables false
set_option linter.unusedSimpArgs false
namespace Go.Proofs.YtpdckpifhniioaaGreat
open Go.RowKit
namespace Ab
def inB (x y:Int):Bool:=decide (-8192≤x∧x≤8191∧-8192≤y∧y≤8191)
theorem inB_eq (x y:Int):(bif (bif (bif decide (x≥-8192) then decide (x≤8191) else false) then decide (y≥-8192) else false) then decide (y≤8191) else false)=inB x y:=by
 unfold inB
 by_cases h1:x≥-8192<;>by_cases h2:x≤8191<;>by_cases h3:y≥-8192<;>by_cases h4:y≤8191<;>simp[h1,h2,h3,h4]<;>omega
end Ab
end Go.Proofs.YtpdckpifhniioaaGreat
end
section
set_option linter.unusedVariables false
namespace Go.Proofs.YtpdckpifhniioaaGreat
open Go.RowKit
namespace Ab
structure TA where
 X:Int
 Y:Int
 t:Nat→UInt8
def el (e:TA):List Leaf:=li e.X::li e.Y::tl e.t
def rws (l:List TA):List Leaf:=(l.map el).flatten
def TA.z:TA:=⟨0,0,zT⟩
def at' (l:List TA) (k:Nat):TA:=l.getD k TA.z
def zA258:List Leaf:=li 0::li 0::List.replicate 256 (.v (.int .u8 0))
theorem el_len (e:TA):(el e).length=258:=by simp[el,tl_len]
theorem zA_len:zA258.length=258:=by kernel_rfl
theorem rws_len:∀l:List TA,(rws l).length=258*l.length
 |[]=>rfl
 |e::l=>by
  have:=rws_len l
  simp only[rws,List.map_cons,List.flatten_cons,List.length_append,el_len,List.length_cons] at *
  omega
theorem rws_drop:∀(l:List TA) (k:Nat),k<l.length→∃m,(rws l).drop (k*258)=el (at' l k)++m
 |[],k,h=>by simp at h
 |e::l,0,h=>⟨rws l,by simp[rws,at']⟩
 |e::l,k+1,h=>by
  obtain ⟨m,hm⟩:=rws_drop l k (by simpa using h)
  refine ⟨m,?_⟩
  have:(rws (e::l)).drop ((k+1)*258)=(rws l).drop (k*258):=by
   simp only[rws,List.map_cons,List.flatten_cons]
   rw[List.drop_append,List.drop_eq_nil_of_le (by rw[el_len];omega),List.nil_append,el_len,show (k+1)*258-258=k*258 by omega]
  rw[this,hm]
  rfl
theorem rws_at {l:List TA} {k:Nat} (h:k<l.length):List.take 258 (List.drop (k*258) (rws l))=el (at' l k):=by
 obtain ⟨m,hm⟩:=rws_drop l k h
 rw[hm,List.take_append_of_le_length (by rw[el_len];exact Nat.le_refl _),List.take_of_length_le (by rw[el_len];exact Nat.le_refl _)]
theorem rws_pos {l:List TA} {k:Nat} (h:k<l.length):List.take 2 (List.drop (k*258) (rws l))=[li (at' l k).X,li (at' l k).Y]:=by
 obtain ⟨m,hm⟩:=rws_drop l k h
 rw[hm];rfl
theorem splice_full:∀(m z:List Leaf) (p:List Leaf),z.length=m.length→splice (p++z) p.length m=p++m
 |[],z,p,h=>by
  have:z=[]:=List.eq_nil_of_length_eq_zero h
  subst this;rfl
 |a::m,b::z,p,h=>by
  have:=splice_full m z (p++[a]) (by simpa using h)
  rw[splice,List.set_append_right _ _ (Nat.le_refl _),Nat.sub_self,List.set_cons_zero]
  simpa using this
 |a::m,[],p,h=>by simp at h
theorem splice_all {m z:List Leaf} (h:z.length=m.length):splice z 0 m=m:=splice_full m z [] h
theorem put_el (e:TA):splice zA258 0 (el e)=el e:=splice_all (by rw[zA_len,el_len])
theorem rnLs_plain (ρ:Nat→Option Nat):∀l:List Leaf,(∀x∈l,∃v,x=.v v)→rnLs ρ l=some l
 |[],_=>rfl
 |x::l,h=>by
  obtain ⟨v,rfl⟩:=h x (by simp)
  simp[rnLs,Leaf.rn,rnLs_plain ρ l fun y hy=>h y (by simp[hy])]
theorem tl_plain (t:Nat→UInt8):∀x∈tl t,∃v,x=.v v:=by
 intro x hx
 simp only[tl,List.mem_map] at hx
 obtain ⟨i,_,rfl⟩:=hx
 exact ⟨_,rfl⟩
theorem rws_plain (l:List TA):∀x∈rws l,∃v,x=.v v:=by
 intro x hx
 simp only[rws,List.mem_flatten,List.mem_map] at hx
 obtain ⟨m,⟨e,_,rfl⟩,hx⟩:=hx
 simp only[el,List.mem_cons] at hx
 rcases hx with rfl|rfl|hx
 ·exact ⟨_,rfl⟩
 ·exact ⟨_,rfl⟩
 ·exact tl_plain _ x hx
structure Good (l:List TA):Prop where
 len:l.length≤1024
 inn:∀k,k<l.length→inB (at' l k).X (at' l k).Y=true
 nz:∀k,k<l.length→zeroT (at' l k).t=false
 cl:∀k,k<l.length→sameT (clnT (at' l k).t) (at' l k).t=true
 ord:∀k,k+1<l.length→(at' l k).Y<(at' l (k+1)).Y∨((at' l k).Y=(at' l (k+1)).Y∧(at' l k).X<(at' l (k+1)).X)
end Ab
end Go.Proofs.YtpdckpifhniioaaGreat
end
section
set_option linter.unusedVariables false
set_option linter.unusedSimpArgs false
namespace Go.Proofs.YtpdckpifhniioaaGreat
open Go.RowKit
namespace Ab
theorem tn (k:Nat):((k:Nat):Int).toNat=k:=rfl
theorem kprev {k:Nat} (h:0<k):(((k:Nat):Int)-1).toNat=k-1:=by omega
theorem gk {k:Nat} (h:(!false&&decide (((k:Nat):Int)>0))=true):0<k:=by
 simp at h;omega
end Ab
end Go.Proofs.YtpdckpifhniioaaGreat
end
section
set_option linter.unusedVariables false
set_option linter.unusedSimpArgs false
namespace Go.Proofs.YtpdckpifhniioaaGreat.Cod
open Go.RowKit
open Go.Proofs.YtpdckpifhniioaaGreat
section
namespace M
structure St where
 p:Nat→Int
 lo:Int
 hi:Int
def put (f:Nat→Int) (i:Nat) (v:Int):Nat→Int:=fun k=>if k=i then v else f k
structure Ok (s:St):Prop where
 p:∀c,31≤s.p c∧s.p c≤4065
 lo:0≤s.lo
 le:s.lo≤s.hi
 hi:s.hi≤4294967295
 ne:s.lo / 16777216≠s.hi / 16777216
def start:St:=⟨fun _=>2048,0,4294967295⟩
theorem start_ok:Ok start:=⟨fun _=>⟨by show (31:Int)≤2048;decide,by show (2048:Int)≤4065;decide⟩,by decide,by decide,by decide,by decide⟩
def md (s:St) (c:Nat):Int:=s.lo+(s.hi-s.lo) / 4096*s.p c
theorem Ok.lt {s:St} (h:Ok s):s.lo<s.hi:=by
 have:=h.le
 have:=h.ne
 rcases Int.lt_or_eq_of_le h.le with h1|h1
 ·exact h1
 ·exact absurd (by rw[h1]) h.ne
theorem md_bd {s:St} (h:Ok s) (c:Nat):0≤(s.hi-s.lo) / 4096*s.p c∧(s.hi-s.lo) / 4096*s.p c<s.hi-s.lo:=by
 have h1:=h.lt
 obtain ⟨p1,p2⟩:=h.p c
 have q0:0≤(s.hi-s.lo) / 4096:=Int.ediv_nonneg (by omega) (by omega)
 have q1:4096*((s.hi-s.lo) / 4096)≤s.hi-s.lo:=Int.mul_ediv_self_le (by omega)
 generalize (s.hi-s.lo) / 4096=q at *
 have a1:0≤q*s.p c:=Int.mul_nonneg q0 (by omega)
 have a2:q*s.p c≤q*4065:=Int.mul_le_mul_of_nonneg_left p2 q0
 exact ⟨a1,by omega⟩
theorem md_in {s:St} (h:Ok s) (c:Nat):s.lo≤md s c∧md s c<s.hi:=by
 have:=md_bd h c
 unfold md;omega
def np (x:Int) (b:Int):Int:=if b=1 then x+(4096-x) / 32 else x-x / 32
theorem np_bd {x:Int} (h:31≤x∧x≤4065) (b:Int):31≤np x b∧np x b≤4065:=by
 unfold np;split<;>omega
def byt (l:Int):UInt8:=UInt8.ofNat (l / 16777216).toNat
theorem byt_val {l:Int} (h0:0≤l) (h1:l≤4294967295):((byt l).toNat:Int)=l / 16777216:=by
 unfold byt
 have:(l / 16777216).toNat<256:=by omega
 rw[UInt8.toNat_ofNat']
 rw[Nat.mod_eq_of_lt (by simpa using this)]
 omega
def shs:Nat→Int→Int→List UInt8×Int×Int
 |0,l,h=>([],l,h)
 |f+1,l,h=>if l / 16777216=h / 16777216 then (byt l::(shs f (l*256 % 4294967296) ((h*256+255) % 4294967296)).1,(shs f (l*256 % 4294967296) ((h*256+255) % 4294967296)).2) else ([],l,h)
theorem shs_eq (f:Nat) (l h:Int) (e:l / 16777216=h / 16777216):shs (f+1) l h=(byt l::(shs f (l*256 % 4294967296) ((h*256+255) % 4294967296)).1,(shs f (l*256 % 4294967296) ((h*256+255) % 4294967296)).2):=by
 rw[shs,if_pos e]
theorem shs_ne (f:Nat) (l h:Int) (e:l / 16777216≠h / 16777216):shs f l h=([],l,h):=by
 cases f with
 |zero=>rfl
 |succ f=>rw[shs,if_neg e]
def Cg (f:Nat) (l h:Int):Prop:=
 match f with
 |0=>l % 4294967296=0∧h % 4294967296=4294967295
 |1=>l % 16777216=0∧h % 16777216=16777215
 |2=>l % 65536=0∧h % 65536=65535
 |3=>l % 256=0∧h % 256=255
 |_=>True
structure Iv (f:Nat) (l h:Int):Prop where
 bd:f≤4
 lo:0≤l
 le:l≤h
 hi:h≤4294967295
 cg:Cg f l h
theorem Iv.next {f:Nat} {l h:Int} (i:Iv (f+1) l h) (e:l / 16777216=h / 16777216):Iv f (l*256 % 4294967296) ((h*256+255) % 4294967296):=by
 obtain ⟨h1,h2,h3,h4,h5⟩:=i
 refine ⟨by omega,by omega,by omega,by omega,?_⟩
 obtain rfl|rfl|rfl|rfl:f=0∨f=1∨f=2∨f=3:=by omega
 all_goals (simp only[Cg] at h5⊢)
 ·omega
 ·omega
 ·omega
 ·omega
theorem Iv.stop {l h:Int} (i:Iv 0 l h):l / 16777216≠h / 16777216:=by
 obtain ⟨h1,h2,h3,h4,h5⟩:=i
 simp only[Cg] at h5
 omega
theorem shs_ok:∀(f:Nat) (l h:Int),Iv f l h→0≤(shs f l h).2.1∧(shs f l h).2.1≤(shs f l h).2.2∧(shs f l h).2.2≤4294967295∧(shs f l h).2.1 / 16777216≠(shs f l h).2.2 / 16777216
 |0,l,h,i=>⟨i.lo,i.le,i.hi,i.stop⟩
 |f+1,l,h,i=>by
  by_cases e:l / 16777216=h / 16777216
  ·rw[shs_eq f l h e]
   exact shs_ok f _ _ (i.next e)
  ·rw[shs_ne _ l h e]
   exact ⟨i.lo,i.le,i.hi,e⟩
def lo1 (s:St) (c:Nat) (b:Int):Int:=if b=1 then s.lo else md s c+1
def hi1 (s:St) (c:Nat) (b:Int):Int:=if b=1 then md s c else s.hi
theorem iv1 {s:St} (h:Ok s) (c:Nat) (b:Int):Iv 4 (lo1 s c b) (hi1 s c b):=by
 have:=md_in h c
 have:=h.lo
 have:=h.hi
 unfold lo1 hi1
 refine ⟨by omega,?_,?_,?_,trivial⟩<;>split<;>omega
def outB (s:St) (c:Nat) (b:Int):List UInt8:=(shs 4 (lo1 s c b) (hi1 s c b)).1
def nxt (s:St) (c:Nat) (b:Int):St:=⟨put s.p c (np (s.p c) b),(shs 4 (lo1 s c b) (hi1 s c b)).2.1,(shs 4 (lo1 s c b) (hi1 s c b)).2.2⟩
theorem nxt_ok {s:St} (h:Ok s) (c:Nat) (b:Int):Ok (nxt s c b):=by
 obtain ⟨h1,h2,h3,h4⟩:=shs_ok 4 _ _ (iv1 h c b)
 refine ⟨fun k=>?_,h1,h2,h3,h4⟩
 show 31≤put s.p c (np (s.p c) b) k∧put s.p c (np (s.p c) b) k≤4065
 unfold put
 split
 ·exact np_bd (h.p c) b
 ·exact h.p k
theorem shs_len:∀(f:Nat) (l h:Int),(shs f l h).1.length≤f
 |0,_,_=>Nat.le_refl _
 |f+1,l,h=>by
  by_cases e:l / 16777216=h / 16777216
  ·rw[shs_eq f l h e]
   have:=shs_len f (l*256 % 4294967296) ((h*256+255) % 4294967296)
   simp;omega
  ·rw[shs_ne _ l h e];simp
theorem outB_len (s:St) (c:Nat) (b:Int):(outB s c b).length≤4:=shs_len 4 _ _
def at' (F:List UInt8) (n:Nat):Int:=((F.getD n 0).toNat:Nat)
def val (F:List UInt8) (n:Nat):Int:=at' F n*16777216+at' F (n+1)*65536+at' F (n+2)*256+at' F (n+3)
theorem at_bd (F:List UInt8) (n:Nat):0≤at' F n∧at' F n≤255:=by
 unfold at'
 have:=(F.getD n 0).toNat_lt
 omega
theorem val_bd (F:List UInt8) (n:Nat):0≤val F n∧val F n≤4294967295:=by
 have:=at_bd F n
 have:=at_bd F (n+1)
 have:=at_bd F (n+2)
 have:=at_bd F (n+3)
 unfold val;omega
theorem val_next (F:List UInt8) (n:Nat):val F (n+1)=val F n*256 % 4294967296+at' F (n+4):=by
 have:=at_bd F n
 have:=at_bd F (n+1)
 have:=at_bd F (n+2)
 have:=at_bd F (n+3)
 have:=at_bd F (n+4)
 unfold val
 simp only[Nat.add_assoc,Nat.reduceAdd]
 omega
theorem val_top (F:List UInt8) (n:Nat):val F n=at' F n*16777216+val F (n+1) / 256:=by
 have:=at_bd F n
 have:=at_bd F (n+1)
 have:=at_bd F (n+2)
 have:=at_bd F (n+3)
 have:=at_bd F (n+4)
 unfold val
 simp only[Nat.add_assoc,Nat.reduceAdd]
 omega
theorem shs_val (F:List UInt8) (f:Nat):∀(l h:Int) (n:Nat),Iv f l h→(∀i b,(shs f l h).1[i]? = some b→F.getD (n+i) 0=b)→
  (shs f l h).2.1≤val F (n+(shs f l h).1.length)→val F (n+(shs f l h).1.length)≤(shs f l h).2.2→l≤val F n∧val F n≤h:=by
 induction f with
 |zero=>intro l h n _ _ h1 h2;exact ⟨h1,h2⟩
 |succ f ih=>
  intro l h n i hF h1 h2
  by_cases e:l / 16777216=h / 16777216
  ·rw[shs_eq f l h e] at hF h1 h2
   dsimp only at hF h1 h2
   rw[List.length_cons,show ∀k,n+(k+1)=n+1+k from fun k=>by omega] at h1 h2
   have h0:=hF 0 (byt l) rfl
   have ih:=ih _ _ (n+1) (i.next e) (fun j b hb=>by have:=hF (j+1) b (by simpa using hb);rwa [show n+(j+1)=n+1+j by omega] at this) h1 h2
   have hv:=val_top F n
   have il:=i.lo
   have ile:=i.le
   have ih':=i.hi
   have hb:at' F n=l / 16777216:=by
    unfold at'
    rw[show F.getD n 0=F.getD (n+0) 0 from rfl,h0]
    exact byt_val il (by omega)
   have hvb:=val_bd F (n+1)
   clear h0 hF h1 h2
   generalize val F (n+1)=v1 at *
   generalize val F n=v0 at *
   omega
  ·rw[shs_ne _ l h e] at h1 h2
   exact ⟨h1,h2⟩
def rb (s:St) (c:Nat) (v:Int):Int:=if v≤md s c then 1 else 0
theorem rb_of {s:St} (h:Ok s) (c:Nat) (b:Int) (hb:b=0∨b=1) (F:List UInt8) (n:Nat) (hF:∀i x,(outB s c b)[i]? = some x→F.getD (n+i) 0=x)
  (h1:(nxt s c b).lo≤val F (n+(outB s c b).length)) (h2:val F (n+(outB s c b).length)≤(nxt s c b).hi):rb s c (val F n)=b∧s.lo≤val F n∧val F n≤s.hi:=by
 have hv:=shs_val F 4 _ _ n (iv1 h c b) hF h1 h2
 have hm:=md_in h c
 unfold rb
 unfold lo1 hi1 at hv
 rcases hb with rfl|rfl
 ·rw[if_neg (by omega),if_neg (by omega)] at hv
  rw[if_neg (by omega)]
  exact ⟨rfl,by omega,by omega⟩
 ·rw[if_pos rfl,if_pos rfl] at hv
  rw[if_pos (by omega)]
  exact ⟨rfl,by omega,by omega⟩
def runS:St→List (Nat×Int)→St
 |s,[]=>s
 |s,x::l=>runS (nxt s x.1 x.2) l
def runO:St→List (Nat×Int)→List UInt8
 |_,[]=>[]
 |s,x::l=>outB s x.1 x.2++runO (nxt s x.1 x.2) l
theorem runS_append:∀(l m:List (Nat×Int)) (s:St),runS s (l++m)=runS (runS s l) m
 |[],_,_=>rfl
 |x::l,m,s=>runS_append l m _
theorem runO_append:∀(l m:List (Nat×Int)) (s:St),runO s (l++m)=runO s l++runO (runS s l) m
 |[],_,_=>rfl
 |x::l,m,s=>by
  show outB s x.1 x.2++runO _ (l++m)=_
  rw[runO_append l m]
  show _=(outB s x.1 x.2++runO _ l)++_
  rw[List.append_assoc];rfl
theorem runS_ok:∀(l:List (Nat×Int)) (s:St),Ok s→Ok (runS s l)
 |[],_,h=>h
 |x::l,s,h=>runS_ok l _ (nxt_ok h x.1 x.2)
theorem runO_len:∀(l:List (Nat×Int)) (s:St),(runO s l).length≤4*l.length
 |[],_=>Nat.le_refl _
 |x::l,s=>by
  show (outB s x.1 x.2++runO _ l).length≤_
  have:=runO_len l (nxt s x.1 x.2)
  have:=outB_len s x.1 x.2
  simp;omega
def be4 (x:Int):List UInt8:=[UInt8.ofNat (x / 16777216).toNat,UInt8.ofNat (x / 65536).toNat,UInt8.ofNat (x / 256).toNat,UInt8.ofNat x.toNat]
theorem ofNat_val (n:Nat):((UInt8.ofNat n).toNat:Int)=(n:Int) % 256:=by
 rw[UInt8.toNat_ofNat'];omega
theorem val_be4 (F:List UInt8) (n:Nat) (x:Int) (h0:0≤x) (h1:x≤4294967295) (hF:∀i b,(be4 x)[i]? = some b→F.getD (n+i) 0=b):val F n=x:=by
 have e0:=hF 0 _ rfl
 have e1:=hF 1 _ rfl
 have e2:=hF 2 _ rfl
 have e3:=hF 3 _ rfl
 unfold val at'
 rw[show F.getD n 0=F.getD (n+0) 0 from rfl,e0,e1,e2,e3,ofNat_val,ofNat_val,ofNat_val,ofNat_val]
 omega
def Has (F:List UInt8) (n:Nat) (bs:List UInt8):Prop:=∀i b,bs[i]? = some b→F.getD (n+i) 0=b
theorem Has.left {F:List UInt8} {n:Nat} {a b:List UInt8} (h:Has F n (a++b)):Has F n a:=fun i x hx=>h i x (by rw[List.getElem?_append_left (List.getElem?_eq_some_iff.1 hx).1];exact hx)
theorem Has.right {F:List UInt8} {n:Nat} {a b:List UInt8} (h:Has F n (a++b)):Has F (n+a.length) b:=fun i x hx=>by
 have:=h (a.length+i) x (by rw[List.getElem?_append_right (by omega)];rw[Nat.add_sub_cancel_left];exact hx)
 rwa [←Nat.add_assoc] at this
theorem Has.self (A B C:List UInt8):Has (A++B++C) A.length B:=fun i x hx=>by
 have hi:i<B.length:=(List.getElem?_eq_some_iff.1 hx).1
 rw[List.getD_eq_getElem?_getD,List.append_assoc,List.getElem?_append_right (by omega),Nat.add_sub_cancel_left,List.getElem?_append_left hi,hx];rfl
def Bits (l:List (Nat×Int)):Prop:=∀x∈l,x.2=0∨x.2=1
theorem inn_run (F:List UInt8):∀(l:List (Nat×Int)) (s:St) (n:Nat),Ok s→Bits l→Has F n (runO s l++be4 (runS s l).lo)→s.lo≤val F n∧val F n≤s.hi
 |[],s,n,h,_,hF=>by
  have:=val_be4 F n s.lo h.lo (by have:=h.le;have:=h.hi;omega) hF
  have:=h.le
  omega
 |x::l,s,n,h,hb,hF=>by
  have hF':Has F n (outB s x.1 x.2++(runO (nxt s x.1 x.2) l++be4 (runS (nxt s x.1 x.2) l).lo)):=by
   rw[←List.append_assoc];exact hF
  have ih:=inn_run F l (nxt s x.1 x.2) (n+(outB s x.1 x.2).length) (nxt_ok h _ _) (fun y hy=>hb y (by simp[hy])) hF'.right
  exact (rb_of h x.1 x.2 (hb x (by simp)) F n hF'.left ih.1 ih.2).2
theorem rb_run (F:List UInt8) (x:Nat×Int) (l:List (Nat×Int)) (s:St) (n:Nat) (h:Ok s) (hb:Bits (x::l)) (hF:Has F n (runO s (x::l)++be4 (runS s (x::l)).lo)) :
  rb s x.1 (val F n)=x.2∧Has F (n+(outB s x.1 x.2).length) (runO (nxt s x.1 x.2) l++be4 (runS (nxt s x.1 x.2) l).lo):=by
 have hF':Has F n (outB s x.1 x.2++(runO (nxt s x.1 x.2) l++be4 (runS (nxt s x.1 x.2) l).lo)):=by
  rw[←List.append_assoc];exact hF
 have ih:=inn_run F l (nxt s x.1 x.2) (n+(outB s x.1 x.2).length) (nxt_ok h _ _) (fun y hy=>hb y (by simp[hy])) hF'.right
 exact ⟨(rb_of h x.1 x.2 (hb x (by simp)) F n hF'.left ih.1 ih.2).1,hF'.right⟩
def bitAt (x:Nat) (j:Nat):Nat×Int:=((256+x) / 2 ^ (8-j),((x / 2 ^ (7-j) % 2:Nat):Int))
def byteBits (x:UInt8):List (Nat×Int):=(List.range 8).map (bitAt x.toNat)
def encBits (s:List UInt8):List (Nat×Int):=s.flatMap byteBits
def code (l:List (Nat×Int)):List UInt8:=runO start l++be4 (runS start l).lo
def enc (s:List UInt8):List UInt8:=code (encBits s)
theorem bitAt_bit (x j:Nat):(bitAt x j).2=0∨(bitAt x j).2=1:=by unfold bitAt;dsimp only;omega
theorem byteBits_ok (x:UInt8):Bits (byteBits x):=by
 intro y hy
 obtain ⟨j,_,rfl⟩:=List.mem_map.1 hy
 exact bitAt_bit _ _
theorem encBits_ok (s:List UInt8):Bits (encBits s):=by
 intro y hy
 obtain ⟨x,_,hx⟩:=List.mem_flatMap.1 hy
 exact byteBits_ok x y hx
theorem encBits_append (s t:List UInt8):encBits (s++t)=encBits s++encBits t:=List.flatMap_append
theorem encBits_len (s:List UInt8):(encBits s).length=8*s.length:=by
 induction s with
 |nil=>rfl
 |cons x s ih=>show (byteBits x++encBits s).length=_;rw[List.length_append,ih];simp[byteBits];omega
def rdc (F:List UInt8):Nat→Nat→St→Nat→Nat×St×Nat
 |0,c,s,n=>(c,s,n)
 |k+1,c,s,n=>rdc F k (2*c+(rb s c (val F n)).toNat) (nxt s c (rb s c (val F n))) (n+(outB s c (rb s c (val F n))).length)
def rdN (F:List UInt8):Nat→St→Nat→List UInt8×St×Nat
 |0,s,n=>([],s,n)
 |k+1,s,n=>
  let r:=rdc F 8 1 s n
  let q:=rdN F k r.2.1 r.2.2
  (UInt8.ofNat r.1::q.1,q.2)
def dec (F:List UInt8) (n:Nat):List UInt8:=(rdN F n start 0).1
theorem rdN_len (F:List UInt8):∀(k:Nat) (s:St) (n:Nat),(rdN F k s n).1.length=k
 |0,_,_=>rfl
 |k+1,s,n=>by show (_::(rdN F k _ _).1).length=k+1;rw[List.length_cons,rdN_len F k]
theorem rdc_run (F:List UInt8) (x:Nat) (hx:x<256) (m:List (Nat×Int)) (hm:Bits m):∀(k j:Nat),j+k=8→∀(s:St) (n:Nat),Ok s→
  Has F n (runO s (((List.range' j k).map (bitAt x))++m)++be4 (runS s (((List.range' j k).map (bitAt x))++m)).lo)→
  (rdc F k ((256+x) / 2 ^ (8-j)) s n).1=256+x∧(rdc F k ((256+x) / 2 ^ (8-j)) s n).2.1=runS s ((List.range' j k).map (bitAt x))∧
   (rdc F k ((256+x) / 2 ^ (8-j)) s n).2.2=n+(runO s ((List.range' j k).map (bitAt x))).length
 |0,j,hj,s,n,_,_=>by
  obtain rfl:j=8:=by omega
  exact ⟨by show (256+x) / 2 ^ 0=_;simp,rfl,by show n=n+0;rfl⟩
 |k+1,j,hj,s,n,h,hF=>by
  rw[List.range'_succ,List.map_cons,List.cons_append] at hF
  have hb:Bits (bitAt x j::((List.range' (j+1) k).map (bitAt x)++m)):=by
   intro y hy
   simp only[List.mem_cons,List.mem_append,List.mem_map] at hy
   rcases hy with rfl|⟨i,_,rfl⟩|hy
   ·exact bitAt_bit _ _
   ·exact bitAt_bit _ _
   ·exact hm y hy
  obtain ⟨e,hF2⟩:=rb_run F (bitAt x j) _ s n h hb hF
  have e:rb s ((256+x) / 2 ^ (8-j)) (val F n)=(bitAt x j).2:=e
  have ih:=rdc_run F x hx m hm k (j+1) (by omega) (nxt s (bitAt x j).1 (bitAt x j).2) (n+(outB s (bitAt x j).1 (bitAt x j).2).length) (nxt_ok h _ _) hF2
  have hc:2*((256+x) / 2 ^ (8-j))+((bitAt x j).2).toNat=(256+x) / 2 ^ (8-(j+1)):=by
   unfold bitAt
   dsimp only
   have:j≤7:=by omega
   obtain rfl|rfl|rfl|rfl|rfl|rfl|rfl|rfl:j=0∨j=1∨j=2∨j=3∨j=4∨j=5∨j=6∨j=7:=by omega
   all_goals simp only[Nat.reduceSub,Nat.reduceAdd,Nat.reducePow,Int.toNat_natCast]
   all_goals omega
  rw[List.range'_succ,List.map_cons]
  show (rdc F k (2*((256+x) / 2 ^ (8-j))+(rb s ((256+x) / 2 ^ (8-j)) (val F n)).toNat) (nxt s ((256+x) / 2 ^ (8-j)) (rb s ((256+x) / 2 ^ (8-j)) (val F n))) (n+(outB s ((256+x) / 2 ^ (8-j)) (rb s ((256+x) / 2 ^ (8-j)) (val F n))).length)).1=_∧
   (rdc F k (2*((256+x) / 2 ^ (8-j))+(rb s ((256+x) / 2 ^ (8-j)) (val F n)).toNat) (nxt s ((256+x) / 2 ^ (8-j)) (rb s ((256+x) / 2 ^ (8-j)) (val F n))) (n+(outB s ((256+x) / 2 ^ (8-j)) (rb s ((256+x) / 2 ^ (8-j)) (val F n))).length)).2.1=_∧
   (rdc F k (2*((256+x) / 2 ^ (8-j))+(rb s ((256+x) / 2 ^ (8-j)) (val F n)).toNat) (nxt s ((256+x) / 2 ^ (8-j)) (rb s ((256+x) / 2 ^ (8-j)) (val F n))) (n+(outB s ((256+x) / 2 ^ (8-j)) (rb s ((256+x) / 2 ^ (8-j)) (val F n))).length)).2.2=_
  rw[e,hc]
  obtain ⟨i1,i2,i3⟩:=ih
  refine ⟨i1,i2,?_⟩
  refine i3.trans ?_
  show _=n+(outB s (bitAt x j).1 (bitAt x j).2++runO _ _).length
  rw[List.length_append,Nat.add_assoc]
theorem rdN_run (F:List UInt8):∀(t:List UInt8) (s:St) (n:Nat),Ok s→Has F n (runO s (encBits t)++be4 (runS s (encBits t)).lo)→(rdN F t.length s n).1=t
 |[],_,_,_,_=>rfl
 |x::t,s,n,h,hF=>by
  have e:encBits (x::t)=(List.range' 0 8).map (bitAt x.toNat)++encBits t:=by
   show byteBits x++encBits t=_
   unfold byteBits
   rw[List.range_eq_range']
  rw[e] at hF
  obtain ⟨r1,r2,r3⟩:=rdc_run F x.toNat x.toNat_lt (encBits t) (encBits_ok t) 8 0 rfl s n h hF
  have c1:(256+x.toNat) / 2 ^ (8-0)=1:=by have:=x.toNat_lt;omega
  rw[c1] at r1 r2 r3
  have hF2:Has F (n+(runO s ((List.range' 0 8).map (bitAt x.toNat))).length) (runO (runS s ((List.range' 0 8).map (bitAt x.toNat))) (encBits t)++be4 (runS (runS s ((List.range' 0 8).map (bitAt x.toNat))) (encBits t)).lo):=by
   rw[runO_append,runS_append,List.append_assoc] at hF
   exact hF.right
  have ih:=rdN_run F t _ _ (runS_ok ((List.range' 0 8).map (bitAt x.toNat)) s h) hF2
  show UInt8.ofNat (rdc F 8 1 s n).1::(rdN F t.length (rdc F 8 1 s n).2.1 (rdc F 8 1 s n).2.2).1=x::t
  rw[r1,r2,r3,ih]
  congr 1
  apply UInt8.toNat_inj.1
  have:=ofNat_val (256+x.toNat)
  have:=x.toNat_lt
  omega
theorem dec_enc (t more:List UInt8):dec (enc t++more) t.length=t:=by
 refine rdN_run _ t start 0 start_ok ?_
 have:=Has.self [] (enc t) more
 simpa [enc,code] using this
end M
end
section
namespace M
structure Ren (σ:Nat→Nat) (s t:St):Prop where
 p:∀k,k<256→t.p (σ k)=s.p k
 lo:t.lo=s.lo
 hi:t.hi=s.hi
theorem code_len (l:List (Nat×Int)):(code l).length=(runO start l).length+4:=by
 unfold code;rw[List.length_append];rfl
theorem code_bd (l:List (Nat×Int)):(code l).length≤4*l.length+4:=by
 rw[code_len];have:=runO_len l start;omega
theorem enc_bd (s:List UInt8):(enc s).length≤32*s.length+4:=by
 have:=code_bd (encBits s)
 rw[encBits_len] at this
 show (code _).length≤_;omega
end M
end
section
namespace M
def stp (F:List UInt8) (x:Nat×St×Nat):Nat×St×Nat:=
 (2*x.1+(rb x.2.1 x.1 (val F x.2.2)).toNat,nxt x.2.1 x.1 (rb x.2.1 x.1 (val F x.2.2)),x.2.2+(outB x.2.1 x.1 (rb x.2.1 x.1 (val F x.2.2))).length)
theorem rdc_succ (F:List UInt8):∀(k:Nat) (c:Nat) (s:St) (n:Nat),rdc F (k+1) c s n=stp F (rdc F k c s n)
 |0,c,s,n=>rfl
 |k+1,c,s,n=>rdc_succ F k _ _ _
theorem rb_01 (s:St) (c:Nat) (v:Int):rb s c v=0∨rb s c v=1:=by unfold rb;split<;>simp
theorem rdc_bd (F:List UInt8) (s:St) (n:Nat) (hs:Ok s):∀k,2 ^ k≤(rdc F k 1 s n).1∧(rdc F k 1 s n).1<2 ^ (k+1)∧Ok (rdc F k 1 s n).2.1∧(rdc F k 1 s n).2.2≤n+4*k
 |0=>⟨Nat.le_refl 1,(by decide:1<2 ^ 1),hs,Nat.le_refl _⟩
 |k+1=>by
  obtain ⟨h1,h2,h3,h4⟩:=rdc_bd F s n hs k
  rw[rdc_succ]
  generalize rdc F k 1 s n=x at *
  have hb:=rb_01 x.2.1 x.1 (val F x.2.2)
  have ho:=outB_len x.2.1 x.1 (rb x.2.1 x.1 (val F x.2.2))
  have e1:2 ^ (k+1)=2*2 ^ k:=by rw[Nat.pow_succ,Nat.mul_comm]
  have e2:2 ^ (k+1+1)=2*2 ^ (k+1):=by rw[Nat.pow_succ 2 (k+1),Nat.mul_comm]
  refine ⟨?_,?_,nxt_ok h3 _ _,?_⟩
  ·show 2 ^ (k+1)≤2*x.1+(rb _ _ _).toNat
   omega
  ·show 2*x.1+(rb _ _ _).toNat<2 ^ (k+1+1)
   omega
  ·show x.2.2+(outB _ _ _).length≤_
   omega
theorem rdN_cons (F:List UInt8) (k:Nat) (s:St) (n:Nat):rdN F (k+1) s n=(UInt8.ofNat (rdc F 8 1 s n).1::(rdN F k (rdc F 8 1 s n).2.1 (rdc F 8 1 s n).2.2).1,(rdN F k (rdc F 8 1 s n).2.1 (rdc F 8 1 s n).2.2).2):=by
 rw[rdN]
theorem rdN_zero (F:List UInt8) (s:St) (n:Nat):rdN F 0 s n=([],s,n):=by rw[rdN]
theorem rdN_succ (F:List UInt8):∀(k:Nat) (s:St) (n:Nat),rdN F (k+1) s n=((rdN F k s n).1++[UInt8.ofNat (rdc F 8 1 (rdN F k s n).2.1 (rdN F k s n).2.2).1],(rdc F 8 1 (rdN F k s n).2.1 (rdN F k s n).2.2).2)
 |0,s,n=>by
  rw[rdN_cons]
  simp only[rdN_zero,List.nil_append]
 |k+1,s,n=>by
  rw[rdN_cons,rdN_succ F k,rdN_cons F k]
  simp only[List.cons_append]
theorem rdN_bd (F:List UInt8):∀k,Ok (rdN F k start 0).2.1∧(rdN F k start 0).2.2≤32*k
 |0=>⟨start_ok,Nat.le_refl _⟩
 |k+1=>by
  obtain ⟨h1,h2⟩:=rdN_bd F k
  rw[rdN_succ]
  have:=rdc_bd F (rdN F k start 0).2.1 (rdN F k start 0).2.2 h1 8
  exact ⟨this.2.2.1,by have:=this.2.2.2;dsimp only;omega⟩
def acc (c k:Nat):Nat:=(c-2 ^ k)*2 ^ (8-k)
theorem acc_step (c k b:Nat) (hk:k<8) (h1:2 ^ k≤c) (h2:c<2 ^ (k+1)) (hb:b≤1):acc (2*c+b) (k+1)=acc c k+b*2 ^ (7-k)∧acc c k ||| (b*2 ^ (7-k))=acc c k+b*2 ^ (7-k)∧acc c k<256∧b*2 ^ (7-k)<256:=by
 have e1:2 ^ (8-k)=2*2 ^ (7-k):=by rw[show 8-k=7-k+1 by omega,Nat.pow_succ,Nat.mul_comm]
 have e2:2 ^ (k+1)=2*2 ^ k:=by rw[Nat.pow_succ,Nat.mul_comm]
 have e3:2 ^ k*2 ^ (8-k)=256:=by rw[←Nat.pow_add,show k+(8-k)=8 by omega]
 have e4:b*2 ^ (7-k)≤1*2 ^ (7-k):=Nat.mul_le_mul_right _ hb
 have hp:0<2 ^ (7-k):=Nat.pow_pos (by decide)
 have hpk:0<2 ^ k:=Nat.pow_pos (by decide)
 refine ⟨?_,?_,?_,?_⟩
 ·unfold acc
  rw[show 8-(k+1)=7-k by omega,e1,e2,show 2*c+b-2*2 ^ k=2*(c-2 ^ k)+b by omega,Nat.add_mul,Nat.mul_assoc,Nat.mul_left_comm]
 ·have h:=Nat.shiftLeft_add_eq_or_of_lt (show b*2 ^ (7-k)<2 ^ (8-k) by rw[e1];omega) (c-2 ^ k)
  rw[Nat.shiftLeft_eq] at h
  exact h.symm
 ·unfold acc
  calc (c-2 ^ k)*2 ^ (8-k)<2 ^ k*2 ^ (8-k):=Nat.mul_lt_mul_of_pos_right (by omega) (Nat.pow_pos (by decide))
   _=256:=e3
 ·have:2 ^ (7-k)≤2 ^ 7:=Nat.pow_le_pow_right (by decide) (by omega)
  omega
theorem acc_end (c:Nat) (h1:256≤c) (h2:c<512):acc c 8=(UInt8.ofNat c).toNat:=by
 unfold acc
 rw[UInt8.toNat_ofNat']
 simp only[Nat.sub_self,Nat.pow_zero,Nat.mul_one,Nat.reducePow]
 omega
end M
end
end Go.Proofs.YtpdckpifhniioaaGreat.Cod
end
