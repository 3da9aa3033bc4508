/- Part 4 of what CodecBack rests on. -/
import Derived.Laws.StructEq
import Derived.DeepKeys
import Derived.Test.YtpdckpifhniioaaGreatPb
import Derived.Test.YtpdckpifhniioaaGreatPc
section
set_option linter.unusedVariables false
namespace Go.Proofs.YtpdckpifhniioaaGreat
open Go.RowKit
namespace Ab
abbrev rdB (s:ByteArray) (p:Nat) (f:Bool):Blk:=⟨[.v (.string s),.v (.int .i64 (p:Int)),.v (.bool f)],174⟩
theorem rd_of {β:Bt} {x:World} {b:Nat} {s:ByteArray} {p:Nat} {f:Bool} (h:BlkAt β x b (rdB s p f)):Oct.Rd 174 b s p f x:=by
 rcases h with (⟨h,_⟩|⟨h,_⟩)|⟨ys,zs,h1,h2,_⟩
 ·cases h
 ·cases h
 have:ys=[.string s,.int .i64 (p:Int),.bool f]:=(plLs_iff (ys:=[.string s,.int .i64 (p:Int),.bool f]) rfl β ys).1 h2
 subst this
 exact ⟨zs,h1⟩
theorem of_rd {β:Bt} {x:World} {b:Nat} {s:ByteArray} {p:Nat} {f:Bool} (h:Oct.Rd 174 b s p f x):BlkAt β x b (rdB s p f):=by
 obtain ⟨zs,h⟩:=h
 exact .inr ⟨_,zs,h,⟨⟨rfl,rfl⟩,⟨rfl,rfl⟩,⟨rfl,rfl⟩,trivial⟩,trivial⟩
theorem reader_ok {F id n:Nat} (hent:Enters Tryz.prog F) {s:ByteArray} {p p':Nat} {f f':Bool} {ar:List SV} {vals:List Value} {v:SV} {y:Value} (ha:pls ar=some vals) (hv:v.pl=some y)
  (h:∀b w,Oct.Rd 174 b s p f w→Calls Tryz.prog F (.pointer (some ⟨b,0,none⟩)::vals).toArray w fun e w'=>e=.returned y∧w.grownBy w' (some b)∧Oct.Rd 174 b s p' f' w') :
  CallOK Tryz.prog F (.c (.l (.p id 0))::ar) [(id,rdB s p f)] n v [(id,rdB s p' f')] 0:=by
 refine ⟨hent,fun β x vs hvs hinj hlt hnew hH _=>?_⟩
 match vs,hvs with
 |q::vs,⟨hq,hr⟩=>
  obtain ⟨b,hb,rfl⟩:=hq
  have hvs:=(pls_iff ha β vs).1 hr
  subst hvs
  refine (h b x (rd_of (hH id b _ hb (lk_cons_eq _ _ _)))).mono ?_
  rintro e x' ⟨rfl,hg,hr'⟩
  refine ⟨y,β,rfl,⟨(SV.pl_iff hv β y).2 rfl,Ext.refl β,fun i c hc=>.inl hc,fun i c hc=>.inl hc,hinj,fun i c hc=>Nat.lt_of_lt_of_le (hlt i c hc) hg.size,hg.os,hg.tape,hg.output,hg.size,fun k hk hne=>hg.block k hk (fun e=>?_),fun i c k hc hk=>?_⟩⟩
  ·have e:k=b:=by simpa using e
   subst e
   have:=hne id hb
   rw[lk_cons_eq] at this;cases this
  ·have hi:i=id:=by
    have:=lk_mem hk
    simp only[List.mem_singleton,Prod.mk.injEq] at this;exact this.1
   subst hi
   rw[lk_cons_eq] at hk
   cases hk
   rw[hb] at hc
   cases hc
   exact of_rd hr'
theorem reader_ro {F id n:Nat} (hent:Enters Tryz.prog F) {s:ByteArray} {p:Nat} {f:Bool} {ar:List SV} {vals:List Value} {v:SV} {y:Value} (ha:pls ar=some vals) (hv:v.pl=some y)
  (h:∀b w,Oct.Rd 174 b s p f w→Calls Tryz.prog F (.pointer (some ⟨b,0,none⟩)::vals).toArray w fun e w'=>e=.returned y∧Grow w w') :
  CallOK Tryz.prog F (.c (.l (.p id 0))::ar) [(id,rdB s p f)] n v [] 0:=by
 refine ⟨hent,fun β x vs hvs hinj hlt hnew hH _=>?_⟩
 match vs,hvs with
 |q::vs,⟨hq,hr⟩=>
  obtain ⟨b,hb,rfl⟩:=hq
  have hvs:=(pls_iff ha β vs).1 hr
  subst hvs
  refine (h b x (rd_of (hH id b _ hb (lk_cons_eq _ _ _)))).mono ?_
  rintro e x' ⟨rfl,hg⟩
  replace hg:Below x.heap.size x x':=hg
  exact ⟨y,β,rfl,⟨(SV.pl_iff hv β y).2 rfl,Ext.refl β,fun i c hc=>.inl hc,fun i c hc=>.inl hc,hinj,fun i c hc=>Nat.lt_of_lt_of_le (hlt i c hc) hg.size,hg.os,hg.tape,hg.output,hg.size,fun k hk hne=>hg.block k hk,fun i c k hc hk=>by cases hk⟩⟩
theorem new_ok {F n t:Nat} (hent:Enters Tryz.prog F) {ar:List SV} {vals ys:List Value} (ha:pls ar=some vals) (hl:∀y∈ys,leafy y=true)
  (h:∀w,Calls Tryz.prog F vals.toArray w fun e w'=>e=.returned (.pointer (some ⟨w.heap.size,0,none⟩))∧w'=w.alloc (.cells ys.toArray t)) :
  CallOK Tryz.prog F ar [] n (.c (.l (.p n 0))) [(n,⟨ys.map .v,.t t⟩)] 1:=by
 refine ⟨hent,fun β x vs hvs hinj hlt hnew hH _=>?_⟩
 have hvs:=(pls_iff ha β vs).1 hvs
 subst hvs
 refine (h x).mono ?_
 rintro e x' ⟨rfl,rfl⟩
 exact ⟨_,β.set n x.heap.size none,rfl,done_new ⟨hinj,hlt⟩ (hnew n (Nat.le_refl _) (by omega)) rfl rfl rfl (by simp) (fun q hq=>Below.heap_alloc x _ q hq) ⟨x.heap.size,Bt.set_b _ _ _ _,rfl⟩ (.inr ⟨ys,[],by simpa [BT.ty,BT.fr] using heap_alloc_new x (.cells ys.toArray t),den_vs hl,trivial⟩)⟩
end Ab
end Go.Proofs.YtpdckpifhniioaaGreat
end
section
set_option linter.unusedVariables false
set_option linter.unusedSimpArgs false
namespace Go.Proofs.YtpdckpifhniioaaGreat
open Go.RowKit
namespace Ab
theorem enters53:Enters Tryz.prog 53:=fun args w=>by go_simp
theorem C53 (s:ByteArray) (hs:s.size≤1000000000000000000) (n:Nat):CallOK Tryz.prog 53 [.c (.l (.v (.string s)))] [] n (iv .u32 (Oct.M.sum s.data.toList:Nat)) [] 0:=
 call_plain enters53 (vals:=[.string s]) (y:=.int .u32 (Oct.M.sum s.data.toList:Nat)) rfl rfl n fun x=>(Oct.sum_any s x hs).mono fun e x' h=>⟨h.1,by first|exact h.2|exact h.2▸Grow.refl _⟩
theorem enters48:Enters Tryz.prog 48:=fun args w=>by go_simp
theorem C48 (k:Int)  (n:Nat):CallOK Tryz.prog 48 [iv .i64 k] [] n (.c (.l (.v (.string ⟨(Oct.M.leb (Oct.u64 k)).toArray⟩)))) [] 0:=
 call_plain enters48 (vals:=[.int .i64 k]) (y:=.string ⟨(Oct.M.leb (Oct.u64 k)).toArray⟩) rfl rfl n fun x=>(Oct.var_any k x).mono fun e x' h=>⟨h.1,by first|exact h.2|exact h.2▸Grow.refl _⟩
theorem enters50:Enters Tryz.prog 50:=fun args w=>by go_simp
theorem C50 (k m:Int)  (n:Nat):CallOK Tryz.prog 50 [iv .i64 k,iv .i64 m] [] n (.c (.l (.v (.string ⟨(Oct.M.be (Oct.sz m) (Oct.u64 k)).toArray⟩)))) [] 0:=
 call_plain enters50 (vals:=[.int .i64 k,.int .i64 m]) (y:=.string ⟨(Oct.M.be (Oct.sz m) (Oct.u64 k)).toArray⟩) rfl rfl n fun x=>(Oct.put_any k m x).mono fun e x' h=>⟨h.1,by first|exact h.2|exact h.2▸Grow.refl _⟩
theorem enters55:Enters Tryz.prog 55:=fun args w=>by go_simp
theorem C55 (s:ByteArray) (hs:s.size≤1000000000000000000) (n:Nat):CallOK Tryz.prog 55 [.c (.l (.v (.string s)))] [] n (.c (.l (.v (.string ⟨(Oct.txt s).toArray⟩)))) [] 0:=
 call_plain enters55 (vals:=[.string s]) (y:=.string ⟨(Oct.txt s).toArray⟩) rfl rfl n fun x=>(Oct.text_any s x hs).mono fun e x' h=>⟨h.1,by first|exact h.2|exact h.2▸Grow.refl _⟩
theorem enters125:Enters Tryz.prog 125:=fun args w=>by go_simp
theorem C125 (id:Nat) (s:ByteArray) (P:Int) (f:Bool)  (hs:s.size≤1000000000000000000) (h0:0≤P) (hP:P≤s.size) (n:Nat) :
  CallOK Tryz.prog 125 [.c (.l (.p id 0))] [(id,⟨[.v (.string s),.v (.int .i64 P),.v (.bool f)],.t 174⟩)] n (iv .i64 (Oct.varRes s P.toNat f).1) [(id,⟨[.v (.string s),.v (.int .i64 ((Oct.varRes s P.toNat f).2.1:Nat)),.v (.bool (Oct.varRes s P.toNat f).2.2)],.t 174⟩)] 0:=by
 have hp:P.toNat≤s.size:=by omega
 have e:P=(P.toNat:Int):=by omega
 have key:=reader_ok (id:=id) (n:=n) (F:=125) enters125 (s:=s) (p:=P.toNat) (p':=(Oct.varRes s P.toNat f).2.1) (f:=f) (f':=(Oct.varRes s P.toNat f).2.2) (ar:=[]) (vals:=[]) (v:=iv .i64 (Oct.varRes s P.toNat f).1) (y:=.int .i64 (Oct.varRes s P.toNat f).1) rfl rfl (fun b w h=>Oct.rvar_any b s P.toNat f w h hs hp)
 unfold rdB at key
 rw[←e] at key
 exact key
def V125 (S:St) (i:Nat):SV:=match S.blk i with|some ⟨[.v (.string s),.v (.int _ p),.v (.bool f)],_⟩=>iv .i64 (Oct.varRes s p.toNat f).1|_=>.u
def W125 (S:St) (i:Nat):Blk:=match S.blk i with|some ⟨[.v (.string s),.v (.int _ p),.v (.bool f)],_⟩=>⟨[.v (.string s),.v (.int .i64 ((Oct.varRes s p.toNat f).2.1:Nat)),.v (.bool (Oct.varRes s p.toNat f).2.2)],.t 174⟩|_=>⟨[],.t 0⟩
theorem enters59:Enters Tryz.prog 59:=fun args w=>by go_simp
theorem C59 (id:Nat) (s:ByteArray) (P:Int) (f:Bool)  (hs:s.size≤1000000000000000000) (h0:0≤P) (hP:P≤s.size) (n:Nat) :
  CallOK Tryz.prog 59 [.c (.l (.p id 0))] [(id,⟨[.v (.string s),.v (.int .i64 P),.v (.bool f)],.t 174⟩)] n (.c (.l (.v (.string (Oct.textRes s P.toNat f).1)))) [(id,⟨[.v (.string s),.v (.int .i64 ((Oct.textRes s P.toNat f).2.1:Nat)),.v (.bool (Oct.textRes s P.toNat f).2.2)],.t 174⟩)] 0:=by
 have hp:P.toNat≤s.size:=by omega
 have e:P=(P.toNat:Int):=by omega
 have key:=reader_ok (id:=id) (n:=n) (F:=59) enters59 (s:=s) (p:=P.toNat) (p':=(Oct.textRes s P.toNat f).2.1) (f:=f) (f':=(Oct.textRes s P.toNat f).2.2) (ar:=[]) (vals:=[]) (v:=.c (.l (.v (.string (Oct.textRes s P.toNat f).1)))) (y:=.string (Oct.textRes s P.toNat f).1) rfl rfl (fun b w h=>Oct.rtext_any b s P.toNat f w h hs hp)
 unfold rdB at key
 rw[←e] at key
 exact key
def V59 (S:St) (i:Nat):SV:=match S.blk i with|some ⟨[.v (.string s),.v (.int _ p),.v (.bool f)],_⟩=>.c (.l (.v (.string (Oct.textRes s p.toNat f).1)))|_=>.u
def W59 (S:St) (i:Nat):Blk:=match S.blk i with|some ⟨[.v (.string s),.v (.int _ p),.v (.bool f)],_⟩=>⟨[.v (.string s),.v (.int .i64 ((Oct.textRes s p.toNat f).2.1:Nat)),.v (.bool (Oct.textRes s p.toNat f).2.2)],.t 174⟩|_=>⟨[],.t 0⟩
theorem enters60:Enters Tryz.prog 60:=fun args w=>by go_simp
theorem C60 (id:Nat) (s:ByteArray) (P:Int) (f:Bool) (m:Int) (hs:s.size≤1000000000000000000) (h0:0≤P) (hP:P≤s.size) (n:Nat) :
  CallOK Tryz.prog 60 [.c (.l (.p id 0)),iv .i64 m] [(id,⟨[.v (.string s),.v (.int .i64 P),.v (.bool f)],.t 174⟩)] n (iv .i64 (wrap64 (Oct.bev (Oct.takeRes s P.toNat f (Oct.sz m)).1.data.toList))) [(id,⟨[.v (.string s),.v (.int .i64 ((Oct.takeRes s P.toNat f (Oct.sz m)).2.1:Nat)),.v (.bool (Oct.takeRes s P.toNat f (Oct.sz m)).2.2)],.t 174⟩)] 0:=by
 have hp:P.toNat≤s.size:=by omega
 have e:P=(P.toNat:Int):=by omega
 have key:=reader_ok (id:=id) (n:=n) (F:=60) enters60 (s:=s) (p:=P.toNat) (p':=(Oct.takeRes s P.toNat f (Oct.sz m)).2.1) (f:=f) (f':=(Oct.takeRes s P.toNat f (Oct.sz m)).2.2) (ar:=[iv .i64 m]) (vals:=[.int .i64 m]) (v:=iv .i64 (wrap64 (Oct.bev (Oct.takeRes s P.toNat f (Oct.sz m)).1.data.toList))) (y:=.int .i64 (wrap64 (Oct.bev (Oct.takeRes s P.toNat f (Oct.sz m)).1.data.toList))) rfl rfl (fun b w h=>Oct.num_any b s P.toNat f w m h hs hp)
 unfold rdB at key
 rw[←e] at key
 exact key
def V60 (S:St) (i:Nat) (m:Int):SV:=match S.blk i with|some ⟨[.v (.string s),.v (.int _ p),.v (.bool f)],_⟩=>iv .i64 (wrap64 (Oct.bev (Oct.takeRes s p.toNat f (Oct.sz m)).1.data.toList))|_=>.u
def W60 (S:St) (i:Nat) (m:Int):Blk:=match S.blk i with|some ⟨[.v (.string s),.v (.int _ p),.v (.bool f)],_⟩=>⟨[.v (.string s),.v (.int .i64 ((Oct.takeRes s p.toNat f (Oct.sz m)).2.1:Nat)),.v (.bool (Oct.takeRes s p.toNat f (Oct.sz m)).2.2)],.t 174⟩|_=>⟨[],.t 0⟩
theorem enters64:Enters Tryz.prog 64:=fun args w=>by go_simp
theorem C64 (id:Nat) (s:ByteArray) (P:Int) (f:Bool) (m:Int) (hs:s.size≤1000000000000000000) (h0:0≤P) (hP:P≤s.size) (n:Nat) :
  CallOK Tryz.prog 64 [.c (.l (.p id 0)),iv .i64 m] [(id,⟨[.v (.string s),.v (.int .i64 P),.v (.bool f)],.t 174⟩)] n (.c (.l (.v (.string (Oct.takeRes s P.toNat f m).1)))) [(id,⟨[.v (.string s),.v (.int .i64 ((Oct.takeRes s P.toNat f m).2.1:Nat)),.v (.bool (Oct.takeRes s P.toNat f m).2.2)],.t 174⟩)] 0:=by
 have hp:P.toNat≤s.size:=by omega
 have e:P=(P.toNat:Int):=by omega
 have key:=reader_ok (id:=id) (n:=n) (F:=64) enters64 (s:=s) (p:=P.toNat) (p':=(Oct.takeRes s P.toNat f m).2.1) (f:=f) (f':=(Oct.takeRes s P.toNat f m).2.2) (ar:=[iv .i64 m]) (vals:=[.int .i64 m]) (v:=.c (.l (.v (.string (Oct.takeRes s P.toNat f m).1)))) (y:=.string (Oct.takeRes s P.toNat f m).1) rfl rfl (fun b w h=>Oct.take_any b s P.toNat f w m h hs hp)
 unfold rdB at key
 rw[←e] at key
 exact key
def V64 (S:St) (i:Nat) (m:Int):SV:=match S.blk i with|some ⟨[.v (.string s),.v (.int _ p),.v (.bool f)],_⟩=>.c (.l (.v (.string (Oct.takeRes s p.toNat f m).1)))|_=>.u
def W64 (S:St) (i:Nat) (m:Int):Blk:=match S.blk i with|some ⟨[.v (.string s),.v (.int _ p),.v (.bool f)],_⟩=>⟨[.v (.string s),.v (.int .i64 ((Oct.takeRes s p.toNat f m).2.1:Nat)),.v (.bool (Oct.takeRes s p.toNat f m).2.2)],.t 174⟩|_=>⟨[],.t 0⟩
theorem enters58:Enters Tryz.prog 58:=fun args w=>by go_simp
theorem enters61:Enters Tryz.prog 61:=fun args w=>by go_simp
theorem enters63:Enters Tryz.prog 63:=fun args w=>by go_simp
theorem C58 (s:ByteArray) (n:Nat):CallOK Tryz.prog 58 [.c (.l (.v (.string s)))] [] n (.c (.l (.p n 0))) [(n,⟨[.v (.string s),.v (.int .i64 0),.v (.bool false)],.t 174⟩)] 1:=
 new_ok enters58 (vals:=[.string s]) (ys:=[.string s,.int .i64 0,.bool false]) rfl (by simp[leafy,Value.oneCell']) fun w=>(Oct.read_any s w).mono fun e w' h=>⟨h.1,h.2.symm⟩
theorem C61 (id:Nat) (s:ByteArray) (P:Int) (f:Bool) (h0:0≤P) (n:Nat):CallOK Tryz.prog 61 [.c (.l (.p id 0))] [(id,⟨[.v (.string s),.v (.int .i64 P),.v (.bool f)],.t 174⟩)] n (bv f) [] 0:=by
 have e:P=(P.toNat:Int):=by omega
 have key:=reader_ro (id:=id) (n:=n) (F:=61) enters61 (s:=s) (p:=P.toNat) (f:=f) (ar:=[]) (vals:=[]) (v:=bv f) (y:=.bool f) rfl rfl (fun b w h=>(Oct.failed_any b s P.toNat f w h).mono fun e w' h=>⟨h.1,h.2▸Grow.refl _⟩)
 unfold rdB at key
 rw[←e] at key
 exact key
theorem grow_drewN (w:World) (n:Nat):Grow w (w.drewN n):=⟨rfl,rfl,rfl,Nat.le_refl _,fun _ _=>rfl⟩
theorem C63 (id:Nat) (s:ByteArray) (P:Int) (f:Bool) (hs:s.size≤1000000000000000000) (h0:0≤P) (hP:P≤s.size) (n:Nat):CallOK Tryz.prog 63 [.c (.l (.p id 0))] [(id,⟨[.v (.string s),.v (.int .i64 P),.v (.bool f)],.t 174⟩)] n (iv .i64 (s.size-P)) [] 0:=by
 have e:P=(P.toNat:Int):=by omega
 have key:=reader_ro (id:=id) (n:=n) (F:=63) enters63 (s:=s) (p:=P.toNat) (f:=f) (ar:=[]) (vals:=[]) (v:=iv .i64 (s.size-P.toNat)) (y:=.int .i64 (s.size-P.toNat)) rfl rfl (fun b w h=>(Oct.left_any b s P.toNat f w h hs (by omega)).mono fun e w' h=>⟨h.1,by obtain ⟨k,hk⟩:=h.2;rw[hk];exact grow_drewN _ _⟩)
 unfold rdB at key
 rw[←e] at key
 exact key
def V61 (S:St) (i:Nat):SV:=match S.blk i with|some ⟨[.v (.string s),.v (.int _ p),.v (.bool f)],_⟩=>bv f|_=>.u
def V63 (S:St) (i:Nat):SV:=match S.blk i with|some ⟨[.v (.string s),.v (.int _ p),.v (.bool f)],_⟩=>iv .i64 (s.size-p)|_=>.u
def hasP (s t:ByteArray):Bool:=bif decide ((s.size:Int)≥t.size) then (s.extract 0 t.size).toList==t.toList else false
def cutP (s t:ByteArray):ByteArray×Bool:=bif hasP s t then (s.extract t.size s.size,true) else (s,false)
theorem enters160:Enters Tryz.prog 160:=fun args w=>by go_simp
def cz_C160:Cz:={
 ct:=(fun f=>match f with
 |_=>none)
 eq:=(fun t=>match t with
 |_=>none)
 raw:=[],sym:=[],nf:=[],ap:=true,off:=[],on:=[],lp:=fun _=>none,un:=0}
set_option maxRecDepth 100000 in
set_option maxHeartbeats 400000 in
theorem C160 (s t:ByteArray) (hs:s.size≤1000000000000000000) (n:Nat):CallOK Tryz.prog 160 [.c (.l (.v (.string s))),.c (.l (.v (.string t)))] [] n (bv (hasP s t)) [] 0:=by
 refine CallOK.any ?_ (by kernel_rfl) (by kernel_rfl) n
 refine call_ok (cx:=cz_C160) (nm:=[]) rfl Tryz.func160 (body:=Tryz.f160.body.getD .skip) rfl enters160 (by kernel_rfl) ?_
 apply of_eq (q:=(decide ((Nat.cast s.size:Int)≥(Nat.cast t.size:Int))=true→decide ((Nat.cast s.size:Int)≥(Nat.cast t.size:Int))=true∧True)∧(decide ((Nat.cast s.size:Int)≥(Nat.cast t.size:Int))=true→decide ((Nat.cast s.size:Int)≥(Nat.cast t.size:Int))=true∧decide ((Nat.cast s.size:Int)≥(Nat.cast t.size:Int))=true∧SlOK 0 (Nat.cast t.size:Int) (Nat.cast s.size:Int)∧True)∧(decide ((Nat.cast s.size:Int)≥(Nat.cast t.size:Int))=true→decide ((Nat.cast s.size:Int)≥(Nat.cast t.size:Int))=true∧decide ((Nat.cast s.size:Int)≥(Nat.cast t.size:Int))=true∧True)∧(decide ((Nat.cast s.size:Int)≥(Nat.cast t.size:Int))=true→decide ((Nat.cast s.size:Int)≥(Nat.cast t.size:Int))=true)∧Le (bv (bif decide ((Nat.cast s.size:Int)≥(Nat.cast t.size:Int)) then (s.extract (Int.toNat 0) ((Nat.cast t.size:Int)).toNat).toList==t.toList else false)) (bv (hasP s t))∧True) (by kernel_rfl)
 repeat' (first|exact trivial|with_reducible apply And.intro|(with_reducible apply HB.mk)|with_reducible intro _)
 all_goals first
  |(assumption)
  |(have:=of_decide_eq_true ‹_›;unfold SlOK;omega)
  |(exact Le.of rfl)
  |(exact Le.of rfl)
theorem hasP_le {s t:ByteArray} (h:hasP s t=true):t.size≤s.size:=by
 unfold hasP at h
 by_cases k:(s.size:Int)≥t.size
 ·omega
 ·rw[decide_eq_false k] at h;cases h
theorem enters124:Enters Tryz.prog 124:=fun args w=>by go_simp
def cz_C124:Cz:={
 ct:=(fun f=>match f with
 |160=>some fun _ _S ar=>match ar with | [.c (.l (.v (.string s))),.c (.l (.v (.string t)))]=>some {v:=bv (hasP s t),rd:=[],wr:=[],nw:=0}|_=>none
 |_=>none)
 eq:=(fun t=>match t with
 |_=>none)
 raw:=[],sym:=[],nf:=[],ap:=true,off:=[],on:=[],lp:=fun _=>none,un:=0}
set_option maxRecDepth 100000 in
set_option maxHeartbeats 400000 in
theorem C124 (s t:ByteArray) (hs:s.size≤1000000000000000000) (n:Nat):CallOK Tryz.prog 124 [.c (.l (.v (.string s))),.c (.l (.v (.string t)))] [] n (.tup [.l (.v (.string (cutP s t).1)),.l (.v (.bool (cutP s t).2))]) [] 0:=by
 refine CallOK.any ?_ (by kernel_rfl) (by kernel_rfl) n
 have hsz:=hasP_le (s:=s) (t:=t)
 refine call_ok (cx:=cz_C124) (nm:=[]) rfl Tryz.func124 (body:=Tryz.f124.body.getD .skip) rfl enters124 (by kernel_rfl) ?_
 apply of_eq (q:=CallOKd Tryz.prog 160 [] [SV.c (Cp.l (Leaf.v (Value.string s))),SV.c (Cp.l (Leaf.v (Value.string t)))] [] 0 (bv (hasP s t)) [] 0∧HB (!hasP s t) (Le (SV.tup [Cp.l (Leaf.v (Value.string s)),Cp.l (lb false)]) (SV.tup [Cp.l (Leaf.v (Value.string (cutP s t).fst)),Cp.l (lb (cutP s t).snd)])∧True) (SlOK (Nat.cast t.size:Int) (Nat.cast s.size:Int) (Nat.cast s.size:Int)∧Le (SV.tup [Cp.l (Leaf.v (Value.string (s.extract ((Nat.cast t.size:Int)).toNat ((Nat.cast s.size:Int)).toNat))),Cp.l (lb true)]) (SV.tup [Cp.l (Leaf.v (Value.string (cutP s t).fst)),Cp.l (lb (cutP s t).snd)])∧True)) (by kernel_rfl)
 repeat' (first|exact trivial|with_reducible apply And.intro|(with_reducible apply HB.mk)|with_reducible intro _)
 all_goals first
  |((refine C160 _ _ ?_ _);first|assumption|decide +kernel)
  |(refine Le.of ?_;unfold cutP;rw[show hasP s t=false by simpa using ‹(!hasP s t)=true›];rfl)
  |(refine Le.of ?_;unfold cutP;rw[show hasP s t=true by simpa using ‹(!hasP s t)=false›];rfl)
  |(have:=hasP_le (show hasP s t=true by simpa using ‹(!hasP s t)=false›);unfold SlOK;omega)
theorem enters57:Enters Tryz.prog 57:=fun args w=>by go_simp
def cz_C57:Cz:={
 ct:=(fun f=>match f with
 |124=>some fun _ _S ar=>match ar with | [.c (.l (.v (.string s))),.c (.l (.v (.string t)))]=>some {v:=.tup [.l (.v (.string (cutP s t).1)),.l (.v (.bool (cutP s t).2))],rd:=[],wr:=[],nw:=0}|_=>none
 |_=>none)
 eq:=(fun t=>match t with
 |_=>none)
 raw:=[],sym:=[],nf:=[],ap:=true,off:=[],on:=[],lp:=fun _=>none,un:=0}
set_option maxRecDepth 100000 in
set_option maxHeartbeats 400000 in
theorem C57 (s t:ByteArray) (hs:s.size≤1000000000000000000) (n:Nat):CallOK Tryz.prog 57 [.c (.l (.v (.string s))),.c (.l (.v (.string t)))] [] n (.tup [.l (.v (.string (cutP s t).1)),.l (.v (.bool (cutP s t).2))]) [] 0:=by
 refine CallOK.any ?_ (by kernel_rfl) (by kernel_rfl) n
 refine call_ok (cx:=cz_C57) (nm:=[]) rfl Tryz.func57 (body:=Tryz.f57.body.getD .skip) rfl enters57 (by kernel_rfl) ?_
 apply of_eq (q:=CallOKd Tryz.prog 124 [] [SV.c (Cp.l (Leaf.v (Value.string s))),SV.c (Cp.l (Leaf.v (Value.string t)))] [] 0 (SV.tup [Cp.l (Leaf.v (Value.string (cutP s t).fst)),Cp.l (lb (cutP s t).snd)]) [] 0∧Le (SV.tup [Cp.l (Leaf.v (Value.string (cutP s t).fst)),Cp.l (lb (cutP s t).snd)]) (SV.tup [Cp.l (Leaf.v (Value.string (cutP s t).fst)),Cp.l (lb (cutP s t).snd)])∧True) (by kernel_rfl)
 repeat' (first|exact trivial|with_reducible apply And.intro|(with_reducible apply HB.mk)|with_reducible intro _)
 all_goals first
  |(with_reducible exact Le.refl _)
  |((refine C124 _ _ ?_ _);first|assumption|decide +kernel)
end Ab
end Go.Proofs.YtpdckpifhniioaaGreat
end
section
set_option linter.unusedVariables false
namespace Go.Proofs.YtpdckpifhniioaaGreat
open Go.RowKit
namespace Ab
abbrev u8 (n:Int):Leaf:=.v (.int .u8 n)
abbrev ub (b:UInt8):Leaf:=u8 (b.toNat:Nat)
def tl (t:Nat→UInt8):List Leaf:=(List.range 256).map fun i=>ub (t i)
theorem tl_len (t:Nat→UInt8):(tl t).length=256:=by simp[tl]
theorem tl_at (t:Nat→UInt8) {i:Nat} (h:i<256):(tl t)[i]? = some (ub (t i)):=by simp[tl,h]
theorem tl_none (t:Nat→UInt8) {i:Nat} (h:¬i<256):(tl t)[i]? = none:=by simp[tl];omega
theorem tl_getD (t:Nat→UInt8) {i:Nat} (h:i<256):(tl t).getD i .u=ub (t i):=by rw[List.getD_eq_getElem?_getD,tl_at t h];rfl
def px (t:Nat→UInt8) (k:Nat):List Leaf:=[ub (t (4*k)),ub (t (4*k+1)),ub (t (4*k+2)),ub (t (4*k+3))]
theorem tl_pix (t:Nat→UInt8) {k:Nat} (h:k<64):((tl t).drop (k*4)).take 4=px t k:=by
 apply List.ext_getElem?
 intro j
 rw[List.getElem?_take]
 split
 ·rename_i hj
  rw[List.getElem?_drop,tl_at t (by omega),Nat.mul_comm k 4]
  unfold px
  match j,hj with
  |0,_=>rfl
  |1,_=>rfl
  |2,_=>rfl
  |3,_=>rfl
 ·rename_i hj
  unfold px
  rw[List.getElem?_eq_none (by simp;omega)]
def setP (t:Nat→UInt8) (k:Nat) (a b c d:UInt8):Nat→UInt8:=fun i=>if i=4*k then a else if i=4*k+1 then b else if i=4*k+2 then c else if i=4*k+3 then d else t i
theorem tl_set (t:Nat→UInt8) {k:Nat} (h:k<64) (a b c d:UInt8):splice (tl t) (k*4) [ub a,ub b,ub c,ub d]=tl (setP t k a b c d):=by
 apply List.ext_getElem?
 intro j
 simp only[splice]
 by_cases hj:j<256
 ·rw[tl_at _ hj]
  simp only[List.getElem?_set,List.length_set,tl_len]
  unfold setP
  by_cases h0:j=4*k
  ·subst h0
   rw[if_neg (by omega),if_neg (by omega),if_neg (by omega),if_pos (by omega),if_pos (by omega),if_pos rfl]
  ·by_cases h1:j=4*k+1
   ·subst h1
    rw[if_neg (by omega),if_neg (by omega),if_pos (by omega),if_pos (by omega),if_neg (by omega),if_pos rfl]
   ·by_cases h2:j=4*k+2
    ·subst h2
     rw[if_neg (by omega),if_pos (by omega),if_pos (by omega),if_neg (by omega),if_neg (by omega),if_pos rfl]
    ·by_cases h3:j=4*k+3
     ·subst h3
      rw[if_pos (by omega),if_pos (by omega),if_neg (by omega),if_neg (by omega),if_neg (by omega),if_pos rfl]
     ·rw[if_neg (by omega),if_neg (by omega),if_neg (by omega),if_neg (by omega),tl_at _ hj,if_neg h0,if_neg h1,if_neg h2,if_neg h3]
 ·rw[tl_none _ hj]
  rw[List.getElem?_eq_none]
  simp only[List.length_set,tl_len]
  omega
theorem tl_ext {t u:Nat→UInt8} (h:∀i,i<256→t i=u i):tl t=tl u:=by
 apply List.ext_getElem?
 intro j
 by_cases hj:j<256
 ·rw[tl_at _ hj,tl_at _ hj,h j hj]
 ·rw[tl_none _ hj,tl_none _ hj]
def zT:Nat→UInt8:=fun _=>0
theorem tl_zero:List.replicate 256 (u8 0)=tl zT:=by kernel_rfl
theorem eq_key {t m D D':Nat} (hk:Tryz.prog.keyTypeAt m t=true) (hm:m≤10000) (hg:Tryz.prog.eqGuardType Tryz.prog.depth t=false) {xs ys:List Value} {la lb:List Lit} (hlx:∀y∈xs,leafy y=true) (hly:∀y∈ys,leafy y=true)
  (fx:(Value.agg xs.toArray).formed Tryz.prog t=true) (fy:(Value.agg ys.toArray).formed Tryz.prog t=true) (hx:Tryz.prog.keyLits D t xs=some la) (hy:Tryz.prog.keyLits D' t ys=some lb) (b:Bool) (hb:b=true↔la=lb) :
  EqOK Tryz.prog t (xs.map .v) (ys.map .v) b:=by
 intro β u v x y w hu hv
 have pl:∀ {l:List Value},(∀y∈l,leafy y=true)→plLs (l.map .v)=some l:=by
  intro l hl
  induction l with
  |nil=>rfl
  |cons a l ih=>
   simp only[List.map_cons,plLs,Leaf.pl,hl a (by simp),ih (fun y hy=>hl y (by simp[hy]))]
 have hu':=(plLs_iff (pl hlx) β u).1 hu
 have hv':=(plLs_iff (pl hly) β v).1 hv
 subst hu' hv'
 obtain ⟨r,hr,hiff⟩:=run_equalIn_deep (P:=Tryz.prog) (10000-m) m t hk w D D' (.agg u.toArray) (.agg v.toArray) la lb fx fy (by simpa [Value.cells] using hx) (by simpa [Value.cells] using hy)
 rw[show 10000-m+m=10000 by omega] at hr
 have hrb:r=b:=by
  cases r<;>cases b<;>simp_all
 subst hrb
 have g:∀op,(eqGuard op t x y (.agg u.toArray) (.agg v.toArray)).run Tryz.prog w=.ok () w:=by
  intro op;unfold eqGuard;cases op<;>simp[Sem.run_bind,hg,go_sem]
 constructor
 ·rw[Sem.run_bind,g,Result.andThen_ok,run_eql_struct,hr];rfl
 ·rw[Sem.run_bind,g,Result.andThen_ok,run_neq_struct,hr];rfl
end Ab
end Go.Proofs.YtpdckpifhniioaaGreat
end
section
set_option linter.unusedVariables false
set_option linter.unusedSimpArgs false
namespace Go.Proofs.YtpdckpifhniioaaGreat
open Go.RowKit
namespace Ab
def zT256:List Leaf:=List.replicate 256 (.v (.int .u8 0))
theorem zT256_eq:zT256=tl zT:=tl_zero
theorem okw (n:Int) (h0 : -9223372036854775808≤n) (h1:n≤9223372036854775807):IntKind.i64.wrap n=n:=by rw[IntKind.wrap_i64];omega
abbrev bl (b:UInt8):Lit:=.int .u8 (b.toNat:Nat)
abbrev bv8 (b:UInt8):Value:=.int .u8 (b.toNat:Nat)
theorem wf8 (b:UInt8):(bl b).wf=true:=by
 have:=b.toNat_lt
 simp[Lit.wf,IntKind.min,IntKind.max,IntKind.bits,IntKind.signed]
 try omega
theorem lits5 (D:Nat) (b:UInt8):Tryz.prog.keyLits (D+1) 5 [bv8 b]=some [bl b]:=by
 unfold Program.keyLits
 simp only[Tryz.underlying5]
 simp[wf8 b]
theorem cells5:Tryz.prog.cellsOf 5=1:=by kernel_rfl
theorem cells36:Tryz.prog.cellsOf 36=4:=by kernel_rfl
theorem cells38:Tryz.prog.cellsOf 38=256:=by kernel_rfl
theorem lits36 (D:Nat) (a b c e:UInt8):Tryz.prog.keyLits (D+2) 36 [bv8 a,bv8 b,bv8 c,bv8 e]=some [bl a,bl b,bl c,bl e]:=by
 unfold Program.keyLits
 simp only[Tryz.underlying36,cells36,cells5]
 simp[cells5,lits5]
theorem eq36 (a b c e a' b' c' e':UInt8):EqOK Tryz.prog 36 [ub a,ub b,ub c,ub e] [ub a',ub b',ub c',ub e'] (decide (a=a'∧b=b'∧c=c'∧e=e')):=by
 refine eq_key (t:=36) (m:=4) (D:=2) (D':=2) (by kernel_rfl) (by decide) (by kernel_rfl) (xs:=[bv8 a,bv8 b,bv8 c,bv8 e]) (ys:=[bv8 a',bv8 b',bv8 c',bv8 e']) (by simp[leafy,Value.oneCell']) (by simp[leafy,Value.oneCell']) (by simp[Value.formed,Tryz.underlying36,cells36]) (by simp[Value.formed,Tryz.underlying36,cells36]) (lits36 0 _ _ _ _) (lits36 0 _ _ _ _) _ ?_
 have h:∀x y:UInt8,bl x=bl y↔x=y:=by
  intro x y
  constructor
  ·intro k;injection k with _ k;exact UInt8.toNat_inj.1 (by omega)
  ·intro k;rw[k]
 simp only[decide_eq_true_eq,List.cons.injEq,h,and_true]
def tv (t:Nat→UInt8):List Value:=(List.range 256).map fun i=>bv8 (t i)
theorem tv_tl (t:Nat→UInt8):(tv t).map .v=tl t:=by simp[tv,tl]
theorem tv_len (t:Nat→UInt8):(tv t).length=256:=by simp[tv]
theorem tv_pix (t:Nat→UInt8) {k:Nat} (h:k<64):((tv t).drop (k*4)).take 4=[bv8 (t (4*k)),bv8 (t (4*k+1)),bv8 (t (4*k+2)),bv8 (t (4*k+3))]:=by
 have:=tl_pix t h
 rw[←tv_tl,←List.map_drop,←List.map_take] at this
 have hi:∀(l m:List Value),l.map Leaf.v=m.map Leaf.v→l=m:=by
  intro l m e
  exact (List.map_inj_right (fun x y e=>by injection e)).1 e
 exact hi _ _ this
theorem lits38 (t:Nat→UInt8):Tryz.prog.keyLits 3 38 (tv t)=some ((List.range 64).map fun k=>[bl (t (4*k)),bl (t (4*k+1)),bl (t (4*k+2)),bl (t (4*k+3))]).flatten:=by
 unfold Program.keyLits
 simp only[Tryz.underlying38,cells38,cells36,tv_len,if_true]
 have:(List.range 64).mapM (fun i=>Tryz.prog.keyLits 2 36 (((tv t).drop (i*4)).take 4))=some ((List.range 64).map fun k=>[bl (t (4*k)),bl (t (4*k+1)),bl (t (4*k+2)),bl (t (4*k+3))]):=by
  have key:∀l:List Nat,(∀k∈l,k<64)→l.mapM (fun i=>Tryz.prog.keyLits 2 36 (((tv t).drop (i*4)).take 4))=some (l.map fun k=>[bl (t (4*k)),bl (t (4*k+1)),bl (t (4*k+2)),bl (t (4*k+3))]):=by
   intro l hl
   induction l with
   |nil=>rfl
   |cons k l ih=>
    rw[List.mapM_cons,tv_pix t (hl k (by simp)),lits36 0,ih (fun j hj=>hl j (by simp[hj]))]
    rfl
  exact key _ (fun k hk=>by simpa using hk)
 rw[this]
 rfl
def sameT (t u:Nat→UInt8):Bool:=(List.range 256).all fun i=>decide (t i=u i)
theorem sameT_iff (t u:Nat→UInt8):sameT t u=true↔∀i,i<256→t i=u i:=by
 unfold sameT;simp[List.all_eq_true]
theorem flat_inj {t u:Nat→UInt8}:∀l:List Nat,((l.map fun k=>[bl (t (4*k)),bl (t (4*k+1)),bl (t (4*k+2)),bl (t (4*k+3))]).flatten=(l.map fun k=>[bl (u (4*k)),bl (u (4*k+1)),bl (u (4*k+2)),bl (u (4*k+3))]).flatten↔∀k∈l,t (4*k)=u (4*k)∧t (4*k+1)=u (4*k+1)∧t (4*k+2)=u (4*k+2)∧t (4*k+3)=u (4*k+3))
 |[]=>by simp
 |k::l=>by
  have h:∀x y:UInt8,bl x=bl y↔x=y:=by
   intro x y
   constructor
   ·intro k;injection k with _ k;exact UInt8.toNat_inj.1 (by omega)
   ·intro k;rw[k]
  simp only[List.map_cons,List.flatten_cons,List.cons_append,List.nil_append,List.cons.injEq,h,flat_inj l,List.forall_mem_cons]
  constructor
  ·rintro ⟨a,b,c,d,e⟩;exact ⟨⟨a,b,c,d⟩,e⟩
  ·rintro ⟨⟨a,b,c,d⟩,e⟩;exact ⟨a,b,c,d,e⟩
theorem eq38 (t u:Nat→UInt8):EqOK Tryz.prog 38 (tl t) (tl u) (sameT t u):=by
 rw[←tv_tl,←tv_tl]
 have lf:∀v:Nat→UInt8,∀y∈tv v,leafy y=true:=by
  intro v y hy
  simp only[tv,List.mem_map] at hy
  obtain ⟨i,_,rfl⟩:=hy
  rfl
 refine eq_key (t:=38) (m:=5) (D:=3) (D':=3) (by kernel_rfl) (by decide) (by kernel_rfl) (lf t) (lf u) (by simp[Value.formed,Tryz.underlying38,cells38,tv_len]) (by simp[Value.formed,Tryz.underlying38,cells38,tv_len]) (lits38 t) (lits38 u) _ ?_
 rw[flat_inj,sameT_iff]
 constructor
 ·intro h k hk
  have hk:k<64:=by simpa using hk
  exact ⟨h _ (by omega),h _ (by omega),h _ (by omega),h _ (by omega)⟩
 ·intro h i hi
  obtain ⟨a,b,c,d⟩:=h (i / 4) (by simp;omega)
  have:i=4*(i / 4)+i % 4:=by omega
  have h4:i % 4<4:=by omega
  generalize i / 4=q at *
  match hm:i % 4,h4 with
  |0,_=>rw[this,hm];exact a
  |1,_=>rw[this,hm];exact b
  |2,_=>rw[this,hm];exact c
  |3,_=>rw[this,hm];exact d
end Ab
end Go.Proofs.YtpdckpifhniioaaGreat
end
