/- Part 20 of what CodecLocal rests on. -/
import Derived.Test.YtpdckpifhniioaaGreatPs
section
set_option linter.unusedVariables false
set_option linter.unusedSimpArgs false
namespace Go.Proofs.YtpdckpifhniioaaGreat
open Go.RowKit
namespace Ab
attribute [local irreducible] CallOKd
def kB (b:ByteArray):Int:=((b.get! 0).toNat:Nat)
def tlB (b:ByteArray):ByteArray:=b.extract 1 b.size
def dkB (b:ByteArray):Bool:=if kB b=0 then d0B (tlB b) else if kB b=1 then d1B (tlB b) else if kB b=2 then d2B (tlB b) else false
def dkT (b:ByteArray):Nat→UInt8:=if kB b=0 then d0T (tlB b) else if kB b=1 then d1T (tlB b) else if kB b=2 then d2T (tlB b) else zT
def fnB (t:Nat→UInt8) (ok:Bool):Bool:=bif (bif !ok then true else zeroT t) then true else !sameT t (clnT t)
def dEB (b:ByteArray):Bool:=!fnB (dkT b) (dkB b)
def sNe (e:EN):Bool:=stB e.blob (sumI e.blob != e.sum)
def dcE (e:EN):Int:=bif sNe e then 12 else bif dEB e.blob then 0 else 11
def dcT (e:EN):Nat→UInt8:=bif sNe e then zT else bif dEB e.blob then dkT e.blob else zT
theorem sNe_eq (e:EN):(sumI e.blob != e.sum)=sNe e:=(stB_eq _ _).symm
theorem dc_s {e:EN} (h:sNe e=true):dcE e=12∧dcT e=zT:=by unfold dcE dcT;rw[h];exact ⟨rfl,rfl⟩
theorem dc_f {e:EN} {T:Nat→UInt8} {B:Bool} (h:sNe e=false) (ht:dkT e.blob=T) (hb:dkB e.blob=B) (hf:fnB T B=true):dcE e=11∧dcT e=zT:=by
 have:dEB e.blob=false:=by unfold dEB;rw[ht,hb,hf];rfl
 unfold dcE dcT;rw[h,this];exact ⟨rfl,rfl⟩
theorem dc_t {e:EN} {T:Nat→UInt8} {B:Bool} (h:sNe e=false) (ht:dkT e.blob=T) (hb:dkB e.blob=B) (hf:fnB T B=false):dcE e=0∧dcT e=T:=by
 have:dEB e.blob=true:=by unfold dEB;rw[ht,hb,hf];rfl
 unfold dcE dcT;rw[h,this,ht];exact ⟨rfl,rfl⟩
theorem tlB_eq (b:ByteArray):b.extract (Int.toNat 1) ((b.size:Nat):Int).toNat=tlB b:=rfl
theorem fnB_eq (t:Nat→UInt8) (ok:Bool):(bif (bif !ok then true else zeroT t) then true else !sameT t (clnT t))=fnB t ok:=rfl
theorem clnT_lsB (t:Nat→UInt8):tl (clnT (lsB (tl t)))=tl (clnT t):=cln_lsB t
theorem k0 {b:ByteArray} (h:kB b=0):dkT b=d0T (tlB b)∧dkB b=d0B (tlB b):=by unfold dkT dkB;rw[h];exact ⟨rfl,rfl⟩
theorem k1 {b:ByteArray} (h:kB b=1):dkT b=d1T (tlB b)∧dkB b=d1B (tlB b):=by unfold dkT dkB;rw[h];exact ⟨rfl,rfl⟩
theorem k2 {b:ByteArray} (h:kB b=2):dkT b=d2T (tlB b)∧dkB b=d2B (tlB b):=by unfold dkT dkB;rw[h];exact ⟨rfl,rfl⟩
theorem k3 {b:ByteArray} (h:kB b≥3):dkT b=zT∧dkB b=false:=by unfold dkT dkB;rw[if_neg (by omega),if_neg (by omega),if_neg (by omega),if_neg (by omega),if_neg (by omega),if_neg (by omega)];exact ⟨rfl,rfl⟩
theorem enters137:Enters Tryz.prog 137:=fun args w=>by go_simp
def cz_C137:Cz:={
 ct:=(fun f=>match f with
 |_=>none)
 eq:=(fun t=>match t with
 |_=>none)
 raw:=[],sym:=[],nf:=[],ap:=true,off:=[],on:=[],lp:=fun _=>none,un:=0}
set_option maxRecDepth 100000 in
set_option maxHeartbeats 400000 in
theorem C137   (n:Nat):CallOK Tryz.prog 137 [] [] n (.c (.agg [.f 168 [],.f 169 [],.f 171 []])) [] 0:=by
 refine CallOK.any ?_ (by kernel_rfl) (by kernel_rfl) n
 refine call_ok (cx:=cz_C137) (nm:=[]) rfl Tryz.func137 (body:=Tryz.f137.body.getD .skip) rfl enters137 (by kernel_rfl) ?_
 apply of_eq (q:=Le (ag [Leaf.f 168 [],Leaf.f 169 [],Leaf.f 171 []]) (ag [Leaf.f 168 [],Leaf.f 169 [],Leaf.f 171 []])∧True) (by kernel_rfl)
 repeat' (first|exact trivial|with_reducible apply And.intro|(with_reducible apply HB.mk)|with_reducible intro _)
 all_goals first
  |(with_reducible exact Le.refl _)
theorem enters79:Enters Tryz.prog 79:=fun args w=>by go_simp
def cz_C79_0 (e:EN) (N:Nat) (d:Int):Cz:={
 ct:=(fun f=>match f with
 |53=>some fun _ _S ar=>match ar with | [.c (.l (.v (.string q)))]=>some {v:=iv .u32 (sumI q),rd:=[],wr:=[],nw:=0}|_=>none
 |66=>some fun _ _S ar=>match ar with | [.c (.agg l)]=>some {v:=.c (.agg (tl (clnT (lsB l)))),rd:=[],wr:=[],nw:=0}|_=>none
 |108=>some fun _ _S ar=>match ar with | [.c (.agg l)]=>some {v:=bv (zeroT (lsB l)),rd:=[],wr:=[],nw:=0}|_=>none
 |137=>some fun _ _S ar=>match ar with | []=>some {v:=.c (.agg [.f 168 [],.f 169 [],.f 171 []]),rd:=[],wr:=[],nw:=0}|_=>none
 |168=>some fun _ _S ar=>match ar with | [.c (.l (.v (.string q)))]=>some {v:=.tup [.agg (tl (d0T q)),.l (.v (.bool (d0B q)))],rd:=[],wr:=[],nw:=0}|_=>none
 |169=>some fun _ _S ar=>match ar with | [.c (.l (.v (.string q)))]=>some {v:=.tup [.agg (tl (d1T q)),.l (.v (.bool (d1B q)))],rd:=[],wr:=[],nw:=0}|_=>none
 |171=>some fun _ _S ar=>match ar with | [.c (.l (.v (.string q)))]=>some {v:=.tup [.agg (tl (d2T q)),.l (.v (.bool (d2B q)))],rd:=[],wr:=[],nw:=0}|_=>none
 |_=>none)
 eq:=(fun t=>match t with
 |38=>some (fun xs ys=>sameT (lsB xs) (lsB ys))
 |_=>none)
 raw:=[],sym:=[28],nf:=[(20,iv .i64 (sumI e.blob)),(23,bv (sNe e)),(29,iv .i64 0),(39,.c (.l (.v (.string (tlB e.blob))))),(46,.c (.agg (tl (d0T (tlB e.blob))))),(47,bv (zeroT (d0T (tlB e.blob)))),(50,.c (.agg (tl (d0T (tlB e.blob))))),(51,.c (.agg (tl (d0T (tlB e.blob))))),(52,.c (.agg (tl (clnT (d0T (tlB e.blob)))))),(53,bv (!sameT (d0T (tlB e.blob)) (clnT (d0T (tlB e.blob))))),(54,bv (fnB (d0T (tlB e.blob)) (d0B (tlB e.blob)))),(56,.c (.agg (tl (d0T (tlB e.blob)))))],ap:=true,off:=[],on:=[],lp:=fun _=>none,un:=0,wh:=[38,180]}
set_option maxRecDepth 100000 in
set_option maxHeartbeats 400000 in
theorem C79_0 (e:EN) (N:Nat) (d:Int) (hb:1≤e.blob.size) (hz:e.blob.size≤1000000000000000) (h0:0≤d) (hd:d≤1000000000) (hk:kB e.blob=0):CallOK Tryz.prog 79 [.c (.l (.p 0 0)),ag [li e.X,li e.Y,ub e.a,ub e.b,ub e.c,ub e.d,li e.sum,.v (.string e.blob)]] [(0,⟨[.o 1 N,li d],.t 125⟩)] 2 (.tup [.agg (tl (dcT e)),.l (li (dcE e))]) [(0,⟨[.o 1 N,li (d+1)],.t 125⟩)] 0:=by
 refine call_ok (cx:=cz_C79_0 e N d) (nm:=[]) rfl Tryz.func79 (body:=Tryz.f79.body.getD .skip) rfl enters79 (by kernel_rfl) ?_
 apply of_eq (q:=IntKind.i64.wrap (d+1)=d+1∧CallOKd Tryz.prog 53 [] [SV.c (Cp.l (Leaf.v (Value.string e.blob)))] [] 4 (iv IntKind.u32 (sumI e.blob)) [] 0∧Le (iv IntKind.i64 (IntKind.i64.wrap (sumI e.blob))) (iv IntKind.i64 (sumI e.blob))∧Le (bv (sumI e.blob != e.sum)) (bv (sNe e))∧HB (sNe e) (0=0∧256=256∧Le (SV.tup [Cp.agg zT256,Cp.l (li 12)]) (SV.tup [Cp.agg (tl (dcT e)),Cp.l (li (dcE e))])∧BkR (rnId 2 0 []) (Blk.mk [Leaf.o 1 N,li (d+1)] (BT.t 125)) (Blk.mk [Leaf.o 1 N,li (d+1)] (BT.t 125))∧True) (CallOKd Tryz.prog 137 [] [] [] 4 (ag [Leaf.f 168 [],Leaf.f 169 [],Leaf.f 171 []]) [] 0∧0=0∧3=3∧InR 0 e.blob.size∧Le (iv IntKind.i64 (IntKind.i64.wrap (Nat.cast ((e.blob.get! (Int.toNat 0)).toNat):Int))) (iv IntKind.i64 0)∧SlOK 1 (Nat.cast e.blob.size:Int) (Nat.cast e.blob.size:Int)∧Le (SV.c (Cp.l (Leaf.v (Value.string (e.blob.extract (Int.toNat 1) ((Nat.cast e.blob.size:Int)).toNat))))) (SV.c (Cp.l (Leaf.v (Value.string (tlB e.blob)))))∧CallOKd Tryz.prog 168 [] [SV.c (Cp.l (Leaf.v (Value.string (tlB e.blob))))] [] 5 (SV.tup [Cp.agg (tl (d0T (tlB e.blob))),Cp.l (lb (d0B (tlB e.blob)))]) [] 0∧0=0∧256=256∧((!!d0B (tlB e.blob))=true→Le (ag (List.take 256 (tl (d0T (tlB e.blob))))) (ag (tl (d0T (tlB e.blob))))∧True)∧((!!d0B (tlB e.blob))=true→(!!d0B (tlB e.blob))=true∧CallOKd Tryz.prog 108 [] [ag (tl (d0T (tlB e.blob)))] [] 6 (bv (zeroT (lsB (tl (d0T (tlB e.blob)))))) [] 0∧Le (bv (zeroT (lsB (tl (d0T (tlB e.blob)))))) (bv (zeroT (d0T (tlB e.blob))))∧True)∧((!d0B (tlB e.blob))=false→(!!d0B (tlB e.blob))=true)∧((!bif !d0B (tlB e.blob) then true else zeroT (d0T (tlB e.blob)))=true→Le (ag (List.take 256 (tl (d0T (tlB e.blob))))) (ag (tl (d0T (tlB e.blob))))∧True)∧((!bif !d0B (tlB e.blob) then true else zeroT (d0T (tlB e.blob)))=true→Le (ag (List.take 256 (tl (d0T (tlB e.blob))))) (ag (tl (d0T (tlB e.blob))))∧True)∧((!bif !d0B (tlB e.blob) then true else zeroT (d0T (tlB e.blob)))=true→(!bif !d0B (tlB e.blob) then true else zeroT (d0T (tlB e.blob)))=true∧CallOKd Tryz.prog 66 [] [ag (tl (d0T (tlB e.blob)))] [] 6 (ag (tl (clnT (lsB (tl (d0T (tlB e.blob))))))) [] 0∧Le (ag (tl (clnT (lsB (tl (d0T (tlB e.blob))))))) (ag (tl (clnT (d0T (tlB e.blob)))))∧True)∧((!bif !d0B (tlB e.blob) then true else zeroT (d0T (tlB e.blob)))=true→(!bif !d0B (tlB e.blob) then true else zeroT (d0T (tlB e.blob)))=true∧(!bif !d0B (tlB e.blob) then true else zeroT (d0T (tlB e.blob)))=true∧EqOK Tryz.prog 38 (tl (d0T (tlB e.blob))) (tl (clnT (d0T (tlB e.blob)))) (sameT (lsB (tl (d0T (tlB e.blob)))) (lsB (tl (clnT (d0T (tlB e.blob))))))∧Le (bv !sameT (lsB (tl (d0T (tlB e.blob)))) (lsB (tl (clnT (d0T (tlB e.blob)))))) (bv !sameT (d0T (tlB e.blob)) (clnT (d0T (tlB e.blob))))∧True)∧((bif !d0B (tlB e.blob) then true else zeroT (d0T (tlB e.blob)))=false→(!bif !d0B (tlB e.blob) then true else zeroT (d0T (tlB e.blob)))=true)∧Le (bv (bif bif !d0B (tlB e.blob) then true else zeroT (d0T (tlB e.blob)) then true else !sameT (d0T (tlB e.blob)) (clnT (d0T (tlB e.blob))))) (bv (fnB (d0T (tlB e.blob)) (d0B (tlB e.blob))))∧HB (fnB (d0T (tlB e.blob)) (d0B (tlB e.blob))) (0=0∧256=256∧Le (SV.tup [Cp.agg zT256,Cp.l (li 11)]) (SV.tup [Cp.agg (tl (dcT e)),Cp.l (li (dcE e))])∧BkR (rnId 2 0 []) (Blk.mk [Leaf.o 1 N,li (d+1)] (BT.t 125)) (Blk.mk [Leaf.o 1 N,li (d+1)] (BT.t 125))∧True) (Le (ag (List.take 256 (tl (d0T (tlB e.blob))))) (ag (tl (d0T (tlB e.blob))))∧0=0∧256=256∧Le (SV.tup [Cp.agg (tl (d0T (tlB e.blob))),Cp.l (li 0)]) (SV.tup [Cp.agg (tl (dcT e)),Cp.l (li (dcE e))])∧BkR (rnId 2 0 []) (Blk.mk [Leaf.o 1 N,li (d+1)] (BT.t 125)) (Blk.mk [Leaf.o 1 N,li (d+1)] (BT.t 125))∧True))) (by kernel_rfl)
 repeat' (first|exact trivial|with_reducible apply And.intro|(with_reducible apply HB.mk)|with_reducible intro _)
 all_goals first
  |(with_reducible assumption)
  |(with_reducible rfl)
  |((with_reducible refine op7 _ ?_ _;omega))
  |((with_reducible exact C66L _ _ rfl _))
  |((with_reducible exact C108L _ _ rfl _))
  |((with_reducible exact C137 _))
  |((with_reducible exact C168 _ _))
  |((refine Le.int ?_;rw[IntKind.wrap_i64];have:=sumI_bd e.blob;omega))
  |(with_reducible exact Le.bool (sNe_eq e))
  |(exact ⟨by omega,by omega⟩)
  |((exact okw _ (by omega) (by omega)))
  |((refine Le.of ?_;rw[(dc_s (by with_reducible assumption)).1,(dc_s (by with_reducible assumption)).2,←zT256_eq];done))
  |((refine Le.int ?_;exact (b0_eq _).trans hk))
  |(with_reducible exact Le.of (congrArg (fun q=>SV.c (.l (.v (.string q)))) (tlB_eq _)))
  |(with_reducible exact Le.of (congrArg (fun l=>SV.c (.agg l)) (tl_take _)))
  |(with_reducible exact Le.bool (zeroT_lsB _))
  |(with_reducible exact Le.of (congrArg (fun l=>SV.c (.agg l)) (clnT_lsB _)))
  |(with_reducible exact Le.bool (congrArg Bool.not (same_lsB _ _)))
  |(with_reducible exact eq38L rfl rfl)
  |(with_reducible exact Le.bool (fnB_eq _ _))
  |((refine Le.of ?_;rw[(dc_f (by with_reducible assumption) (k0 hk).1 (k0 hk).2 (by with_reducible assumption)).1,(dc_f (by with_reducible assumption) (k0 hk).1 (k0 hk).2 (by with_reducible assumption)).2,←zT256_eq];done))
  |((refine Le.of ?_;rw[(dc_t (by with_reducible assumption) (k0 hk).1 (k0 hk).2 (by with_reducible assumption)).1,(dc_t (by with_reducible assumption) (k0 hk).1 (k0 hk).2 (by with_reducible assumption)).2];done))
  |(exact BkR.of (by kernel_rfl))
  |(simp only[*,Bool.and_self,Bool.not_false,Bool.not_true];done)
def cz_C79_1 (e:EN) (N:Nat) (d:Int):Cz:={
 ct:=(fun f=>match f with
 |53=>some fun _ _S ar=>match ar with | [.c (.l (.v (.string q)))]=>some {v:=iv .u32 (sumI q),rd:=[],wr:=[],nw:=0}|_=>none
 |66=>some fun _ _S ar=>match ar with | [.c (.agg l)]=>some {v:=.c (.agg (tl (clnT (lsB l)))),rd:=[],wr:=[],nw:=0}|_=>none
 |108=>some fun _ _S ar=>match ar with | [.c (.agg l)]=>some {v:=bv (zeroT (lsB l)),rd:=[],wr:=[],nw:=0}|_=>none
 |137=>some fun _ _S ar=>match ar with | []=>some {v:=.c (.agg [.f 168 [],.f 169 [],.f 171 []]),rd:=[],wr:=[],nw:=0}|_=>none
 |168=>some fun _ _S ar=>match ar with | [.c (.l (.v (.string q)))]=>some {v:=.tup [.agg (tl (d0T q)),.l (.v (.bool (d0B q)))],rd:=[],wr:=[],nw:=0}|_=>none
 |169=>some fun _ _S ar=>match ar with | [.c (.l (.v (.string q)))]=>some {v:=.tup [.agg (tl (d1T q)),.l (.v (.bool (d1B q)))],rd:=[],wr:=[],nw:=0}|_=>none
 |171=>some fun _ _S ar=>match ar with | [.c (.l (.v (.string q)))]=>some {v:=.tup [.agg (tl (d2T q)),.l (.v (.bool (d2B q)))],rd:=[],wr:=[],nw:=0}|_=>none
 |_=>none)
 eq:=(fun t=>match t with
 |38=>some (fun xs ys=>sameT (lsB xs) (lsB ys))
 |_=>none)
 raw:=[],sym:=[28],nf:=[(20,iv .i64 (sumI e.blob)),(23,bv (sNe e)),(29,iv .i64 1),(39,.c (.l (.v (.string (tlB e.blob))))),(46,.c (.agg (tl (d1T (tlB e.blob))))),(47,bv (zeroT (d1T (tlB e.blob)))),(50,.c (.agg (tl (d1T (tlB e.blob))))),(51,.c (.agg (tl (d1T (tlB e.blob))))),(52,.c (.agg (tl (clnT (d1T (tlB e.blob)))))),(53,bv (!sameT (d1T (tlB e.blob)) (clnT (d1T (tlB e.blob))))),(54,bv (fnB (d1T (tlB e.blob)) (d1B (tlB e.blob)))),(56,.c (.agg (tl (d1T (tlB e.blob)))))],ap:=true,off:=[],on:=[],lp:=fun _=>none,un:=0,wh:=[38,180]}
set_option maxRecDepth 100000 in
set_option maxHeartbeats 400000 in
theorem C79_1 (e:EN) (N:Nat) (d:Int) (hb:1≤e.blob.size) (hz:e.blob.size≤1000000000000000) (h0:0≤d) (hd:d≤1000000000) (hk:kB e.blob=1):CallOK Tryz.prog 79 [.c (.l (.p 0 0)),ag [li e.X,li e.Y,ub e.a,ub e.b,ub e.c,ub e.d,li e.sum,.v (.string e.blob)]] [(0,⟨[.o 1 N,li d],.t 125⟩)] 2 (.tup [.agg (tl (dcT e)),.l (li (dcE e))]) [(0,⟨[.o 1 N,li (d+1)],.t 125⟩)] 0:=by
 refine call_ok (cx:=cz_C79_1 e N d) (nm:=[]) rfl Tryz.func79 (body:=Tryz.f79.body.getD .skip) rfl enters79 (by kernel_rfl) ?_
 apply of_eq (q:=IntKind.i64.wrap (d+1)=d+1∧CallOKd Tryz.prog 53 [] [SV.c (Cp.l (Leaf.v (Value.string e.blob)))] [] 4 (iv IntKind.u32 (sumI e.blob)) [] 0∧Le (iv IntKind.i64 (IntKind.i64.wrap (sumI e.blob))) (iv IntKind.i64 (sumI e.blob))∧Le (bv (sumI e.blob != e.sum)) (bv (sNe e))∧HB (sNe e) (0=0∧256=256∧Le (SV.tup [Cp.agg zT256,Cp.l (li 12)]) (SV.tup [Cp.agg (tl (dcT e)),Cp.l (li (dcE e))])∧BkR (rnId 2 0 []) (Blk.mk [Leaf.o 1 N,li (d+1)] (BT.t 125)) (Blk.mk [Leaf.o 1 N,li (d+1)] (BT.t 125))∧True) (CallOKd Tryz.prog 137 [] [] [] 4 (ag [Leaf.f 168 [],Leaf.f 169 [],Leaf.f 171 []]) [] 0∧0=0∧3=3∧InR 0 e.blob.size∧Le (iv IntKind.i64 (IntKind.i64.wrap (Nat.cast ((e.blob.get! (Int.toNat 0)).toNat):Int))) (iv IntKind.i64 1)∧SlOK 1 (Nat.cast e.blob.size:Int) (Nat.cast e.blob.size:Int)∧Le (SV.c (Cp.l (Leaf.v (Value.string (e.blob.extract (Int.toNat 1) ((Nat.cast e.blob.size:Int)).toNat))))) (SV.c (Cp.l (Leaf.v (Value.string (tlB e.blob)))))∧CallOKd Tryz.prog 169 [] [SV.c (Cp.l (Leaf.v (Value.string (tlB e.blob))))] [] 5 (SV.tup [Cp.agg (tl (d1T (tlB e.blob))),Cp.l (lb (d1B (tlB e.blob)))]) [] 0∧0=0∧256=256∧((!!d1B (tlB e.blob))=true→Le (ag (List.take 256 (tl (d1T (tlB e.blob))))) (ag (tl (d1T (tlB e.blob))))∧True)∧((!!d1B (tlB e.blob))=true→(!!d1B (tlB e.blob))=true∧CallOKd Tryz.prog 108 [] [ag (tl (d1T (tlB e.blob)))] [] 6 (bv (zeroT (lsB (tl (d1T (tlB e.blob)))))) [] 0∧Le (bv (zeroT (lsB (tl (d1T (tlB e.blob)))))) (bv (zeroT (d1T (tlB e.blob))))∧True)∧((!d1B (tlB e.blob))=false→(!!d1B (tlB e.blob))=true)∧((!bif !d1B (tlB e.blob) then true else zeroT (d1T (tlB e.blob)))=true→Le (ag (List.take 256 (tl (d1T (tlB e.blob))))) (ag (tl (d1T (tlB e.blob))))∧True)∧((!bif !d1B (tlB e.blob) then true else zeroT (d1T (tlB e.blob)))=true→Le (ag (List.take 256 (tl (d1T (tlB e.blob))))) (ag (tl (d1T (tlB e.blob))))∧True)∧((!bif !d1B (tlB e.blob) then true else zeroT (d1T (tlB e.blob)))=true→(!bif !d1B (tlB e.blob) then true else zeroT (d1T (tlB e.blob)))=true∧CallOKd Tryz.prog 66 [] [ag (tl (d1T (tlB e.blob)))] [] 6 (ag (tl (clnT (lsB (tl (d1T (tlB e.blob))))))) [] 0∧Le (ag (tl (clnT (lsB (tl (d1T (tlB e.blob))))))) (ag (tl (clnT (d1T (tlB e.blob)))))∧True)∧((!bif !d1B (tlB e.blob) then true else zeroT (d1T (tlB e.blob)))=true→(!bif !d1B (tlB e.blob) then true else zeroT (d1T (tlB e.blob)))=true∧(!bif !d1B (tlB e.blob) then true else zeroT (d1T (tlB e.blob)))=true∧EqOK Tryz.prog 38 (tl (d1T (tlB e.blob))) (tl (clnT (d1T (tlB e.blob)))) (sameT (lsB (tl (d1T (tlB e.blob)))) (lsB (tl (clnT (d1T (tlB e.blob))))))∧Le (bv !sameT (lsB (tl (d1T (tlB e.blob)))) (lsB (tl (clnT (d1T (tlB e.blob)))))) (bv !sameT (d1T (tlB e.blob)) (clnT (d1T (tlB e.blob))))∧True)∧((bif !d1B (tlB e.blob) then true else zeroT (d1T (tlB e.blob)))=false→(!bif !d1B (tlB e.blob) then true else zeroT (d1T (tlB e.blob)))=true)∧Le (bv (bif bif !d1B (tlB e.blob) then true else zeroT (d1T (tlB e.blob)) then true else !sameT (d1T (tlB e.blob)) (clnT (d1T (tlB e.blob))))) (bv (fnB (d1T (tlB e.blob)) (d1B (tlB e.blob))))∧HB (fnB (d1T (tlB e.blob)) (d1B (tlB e.blob))) (0=0∧256=256∧Le (SV.tup [Cp.agg zT256,Cp.l (li 11)]) (SV.tup [Cp.agg (tl (dcT e)),Cp.l (li (dcE e))])∧BkR (rnId 2 0 []) (Blk.mk [Leaf.o 1 N,li (d+1)] (BT.t 125)) (Blk.mk [Leaf.o 1 N,li (d+1)] (BT.t 125))∧True) (Le (ag (List.take 256 (tl (d1T (tlB e.blob))))) (ag (tl (d1T (tlB e.blob))))∧0=0∧256=256∧Le (SV.tup [Cp.agg (tl (d1T (tlB e.blob))),Cp.l (li 0)]) (SV.tup [Cp.agg (tl (dcT e)),Cp.l (li (dcE e))])∧BkR (rnId 2 0 []) (Blk.mk [Leaf.o 1 N,li (d+1)] (BT.t 125)) (Blk.mk [Leaf.o 1 N,li (d+1)] (BT.t 125))∧True))) (by kernel_rfl)
 repeat' (first|exact trivial|with_reducible apply And.intro|(with_reducible apply HB.mk)|with_reducible intro _)
 all_goals first
  |(with_reducible assumption)
  |(with_reducible rfl)
  |((with_reducible refine op7 _ ?_ _;omega))
  |((with_reducible exact C66L _ _ rfl _))
  |((with_reducible exact C108L _ _ rfl _))
  |((with_reducible exact C137 _))
  |((with_reducible exact C169 _ _))
  |((refine Le.int ?_;rw[IntKind.wrap_i64];have:=sumI_bd e.blob;omega))
  |(with_reducible exact Le.bool (sNe_eq e))
  |(exact ⟨by omega,by omega⟩)
  |((exact okw _ (by omega) (by omega)))
  |((refine Le.of ?_;rw[(dc_s (by with_reducible assumption)).1,(dc_s (by with_reducible assumption)).2,←zT256_eq];done))
  |((refine Le.int ?_;exact (b0_eq _).trans hk))
  |(with_reducible exact Le.of (congrArg (fun q=>SV.c (.l (.v (.string q)))) (tlB_eq _)))
  |(with_reducible exact Le.of (congrArg (fun l=>SV.c (.agg l)) (tl_take _)))
  |(with_reducible exact Le.bool (zeroT_lsB _))
  |(with_reducible exact Le.of (congrArg (fun l=>SV.c (.agg l)) (clnT_lsB _)))
  |(with_reducible exact Le.bool (congrArg Bool.not (same_lsB _ _)))
  |(with_reducible exact eq38L rfl rfl)
  |(with_reducible exact Le.bool (fnB_eq _ _))
  |((refine Le.of ?_;rw[(dc_f (by with_reducible assumption) (k1 hk).1 (k1 hk).2 (by with_reducible assumption)).1,(dc_f (by with_reducible assumption) (k1 hk).1 (k1 hk).2 (by with_reducible assumption)).2,←zT256_eq];done))
  |((refine Le.of ?_;rw[(dc_t (by with_reducible assumption) (k1 hk).1 (k1 hk).2 (by with_reducible assumption)).1,(dc_t (by with_reducible assumption) (k1 hk).1 (k1 hk).2 (by with_reducible assumption)).2];done))
  |(exact BkR.of (by kernel_rfl))
  |(simp only[*,Bool.and_self,Bool.not_false,Bool.not_true];done)
def cz_C79_2 (e:EN) (N:Nat) (d:Int):Cz:={
 ct:=(fun f=>match f with
 |53=>some fun _ _S ar=>match ar with | [.c (.l (.v (.string q)))]=>some {v:=iv .u32 (sumI q),rd:=[],wr:=[],nw:=0}|_=>none
 |66=>some fun _ _S ar=>match ar with | [.c (.agg l)]=>some {v:=.c (.agg (tl (clnT (lsB l)))),rd:=[],wr:=[],nw:=0}|_=>none
 |108=>some fun _ _S ar=>match ar with | [.c (.agg l)]=>some {v:=bv (zeroT (lsB l)),rd:=[],wr:=[],nw:=0}|_=>none
 |137=>some fun _ _S ar=>match ar with | []=>some {v:=.c (.agg [.f 168 [],.f 169 [],.f 171 []]),rd:=[],wr:=[],nw:=0}|_=>none
 |168=>some fun _ _S ar=>match ar with | [.c (.l (.v (.string q)))]=>some {v:=.tup [.agg (tl (d0T q)),.l (.v (.bool (d0B q)))],rd:=[],wr:=[],nw:=0}|_=>none
 |169=>some fun _ _S ar=>match ar with | [.c (.l (.v (.string q)))]=>some {v:=.tup [.agg (tl (d1T q)),.l (.v (.bool (d1B q)))],rd:=[],wr:=[],nw:=0}|_=>none
 |171=>some fun _ _S ar=>match ar with | [.c (.l (.v (.string q)))]=>some {v:=.tup [.agg (tl (d2T q)),.l (.v (.bool (d2B q)))],rd:=[],wr:=[],nw:=0}|_=>none
 |_=>none)
 eq:=(fun t=>match t with
 |38=>some (fun xs ys=>sameT (lsB xs) (lsB ys))
 |_=>none)
 raw:=[],sym:=[28],nf:=[(20,iv .i64 (sumI e.blob)),(23,bv (sNe e)),(29,iv .i64 2),(39,.c (.l (.v (.string (tlB e.blob))))),(46,.c (.agg (tl (d2T (tlB e.blob))))),(47,bv (zeroT (d2T (tlB e.blob)))),(50,.c (.agg (tl (d2T (tlB e.blob))))),(51,.c (.agg (tl (d2T (tlB e.blob))))),(52,.c (.agg (tl (clnT (d2T (tlB e.blob)))))),(53,bv (!sameT (d2T (tlB e.blob)) (clnT (d2T (tlB e.blob))))),(54,bv (fnB (d2T (tlB e.blob)) (d2B (tlB e.blob)))),(56,.c (.agg (tl (d2T (tlB e.blob)))))],ap:=true,off:=[],on:=[],lp:=fun _=>none,un:=0,wh:=[38,180]}
set_option maxRecDepth 100000 in
set_option maxHeartbeats 400000 in
theorem C79_2 (e:EN) (N:Nat) (d:Int) (hb:1≤e.blob.size) (hz:e.blob.size≤1000000000000000) (h0:0≤d) (hd:d≤1000000000) (hk:kB e.blob=2):CallOK Tryz.prog 79 [.c (.l (.p 0 0)),ag [li e.X,li e.Y,ub e.a,ub e.b,ub e.c,ub e.d,li e.sum,.v (.string e.blob)]] [(0,⟨[.o 1 N,li d],.t 125⟩)] 2 (.tup [.agg (tl (dcT e)),.l (li (dcE e))]) [(0,⟨[.o 1 N,li (d+1)],.t 125⟩)] 0:=by
 refine call_ok (cx:=cz_C79_2 e N d) (nm:=[]) rfl Tryz.func79 (body:=Tryz.f79.body.getD .skip) rfl enters79 (by kernel_rfl) ?_
 apply of_eq (q:=IntKind.i64.wrap (d+1)=d+1∧CallOKd Tryz.prog 53 [] [SV.c (Cp.l (Leaf.v (Value.string e.blob)))] [] 4 (iv IntKind.u32 (sumI e.blob)) [] 0∧Le (iv IntKind.i64 (IntKind.i64.wrap (sumI e.blob))) (iv IntKind.i64 (sumI e.blob))∧Le (bv (sumI e.blob != e.sum)) (bv (sNe e))∧HB (sNe e) (0=0∧256=256∧Le (SV.tup [Cp.agg zT256,Cp.l (li 12)]) (SV.tup [Cp.agg (tl (dcT e)),Cp.l (li (dcE e))])∧BkR (rnId 2 0 []) (Blk.mk [Leaf.o 1 N,li (d+1)] (BT.t 125)) (Blk.mk [Leaf.o 1 N,li (d+1)] (BT.t 125))∧True) (CallOKd Tryz.prog 137 [] [] [] 4 (ag [Leaf.f 168 [],Leaf.f 169 [],Leaf.f 171 []]) [] 0∧0=0∧3=3∧InR 0 e.blob.size∧Le (iv IntKind.i64 (IntKind.i64.wrap (Nat.cast ((e.blob.get! (Int.toNat 0)).toNat):Int))) (iv IntKind.i64 2)∧SlOK 1 (Nat.cast e.blob.size:Int) (Nat.cast e.blob.size:Int)∧Le (SV.c (Cp.l (Leaf.v (Value.string (e.blob.extract (Int.toNat 1) ((Nat.cast e.blob.size:Int)).toNat))))) (SV.c (Cp.l (Leaf.v (Value.string (tlB e.blob)))))∧CallOKd Tryz.prog 171 [] [SV.c (Cp.l (Leaf.v (Value.string (tlB e.blob))))] [] 5 (SV.tup [Cp.agg (tl (d2T (tlB e.blob))),Cp.l (lb (d2B (tlB e.blob)))]) [] 0∧0=0∧256=256∧((!!d2B (tlB e.blob))=true→Le (ag (List.take 256 (tl (d2T (tlB e.blob))))) (ag (tl (d2T (tlB e.blob))))∧True)∧((!!d2B (tlB e.blob))=true→(!!d2B (tlB e.blob))=true∧CallOKd Tryz.prog 108 [] [ag (tl (d2T (tlB e.blob)))] [] 6 (bv (zeroT (lsB (tl (d2T (tlB e.blob)))))) [] 0∧Le (bv (zeroT (lsB (tl (d2T (tlB e.blob)))))) (bv (zeroT (d2T (tlB e.blob))))∧True)∧((!d2B (tlB e.blob))=false→(!!d2B (tlB e.blob))=true)∧((!bif !d2B (tlB e.blob) then true else zeroT (d2T (tlB e.blob)))=true→Le (ag (List.take 256 (tl (d2T (tlB e.blob))))) (ag (tl (d2T (tlB e.blob))))∧True)∧((!bif !d2B (tlB e.blob) then true else zeroT (d2T (tlB e.blob)))=true→Le (ag (List.take 256 (tl (d2T (tlB e.blob))))) (ag (tl (d2T (tlB e.blob))))∧True)∧((!bif !d2B (tlB e.blob) then true else zeroT (d2T (tlB e.blob)))=true→(!bif !d2B (tlB e.blob) then true else zeroT (d2T (tlB e.blob)))=true∧CallOKd Tryz.prog 66 [] [ag (tl (d2T (tlB e.blob)))] [] 6 (ag (tl (clnT (lsB (tl (d2T (tlB e.blob))))))) [] 0∧Le (ag (tl (clnT (lsB (tl (d2T (tlB e.blob))))))) (ag (tl (clnT (d2T (tlB e.blob)))))∧True)∧((!bif !d2B (tlB e.blob) then true else zeroT (d2T (tlB e.blob)))=true→(!bif !d2B (tlB e.blob) then true else zeroT (d2T (tlB e.blob)))=true∧(!bif !d2B (tlB e.blob) then true else zeroT (d2T (tlB e.blob)))=true∧EqOK Tryz.prog 38 (tl (d2T (tlB e.blob))) (tl (clnT (d2T (tlB e.blob)))) (sameT (lsB (tl (d2T (tlB e.blob)))) (lsB (tl (clnT (d2T (tlB e.blob))))))∧Le (bv !sameT (lsB (tl (d2T (tlB e.blob)))) (lsB (tl (clnT (d2T (tlB e.blob)))))) (bv !sameT (d2T (tlB e.blob)) (clnT (d2T (tlB e.blob))))∧True)∧((bif !d2B (tlB e.blob) then true else zeroT (d2T (tlB e.blob)))=false→(!bif !d2B (tlB e.blob) then true else zeroT (d2T (tlB e.blob)))=true)∧Le (bv (bif bif !d2B (tlB e.blob) then true else zeroT (d2T (tlB e.blob)) then true else !sameT (d2T (tlB e.blob)) (clnT (d2T (tlB e.blob))))) (bv (fnB (d2T (tlB e.blob)) (d2B (tlB e.blob))))∧HB (fnB (d2T (tlB e.blob)) (d2B (tlB e.blob))) (0=0∧256=256∧Le (SV.tup [Cp.agg zT256,Cp.l (li 11)]) (SV.tup [Cp.agg (tl (dcT e)),Cp.l (li (dcE e))])∧BkR (rnId 2 0 []) (Blk.mk [Leaf.o 1 N,li (d+1)] (BT.t 125)) (Blk.mk [Leaf.o 1 N,li (d+1)] (BT.t 125))∧True) (Le (ag (List.take 256 (tl (d2T (tlB e.blob))))) (ag (tl (d2T (tlB e.blob))))∧0=0∧256=256∧Le (SV.tup [Cp.agg (tl (d2T (tlB e.blob))),Cp.l (li 0)]) (SV.tup [Cp.agg (tl (dcT e)),Cp.l (li (dcE e))])∧BkR (rnId 2 0 []) (Blk.mk [Leaf.o 1 N,li (d+1)] (BT.t 125)) (Blk.mk [Leaf.o 1 N,li (d+1)] (BT.t 125))∧True))) (by kernel_rfl)
 repeat' (first|exact trivial|with_reducible apply And.intro|(with_reducible apply HB.mk)|with_reducible intro _)
 all_goals first
  |(with_reducible assumption)
  |(with_reducible rfl)
  |((with_reducible refine op7 _ ?_ _;omega))
  |((with_reducible exact C66L _ _ rfl _))
  |((with_reducible exact C108L _ _ rfl _))
  |((with_reducible exact C137 _))
  |((with_reducible refine C171 _ ?_ _;unfold tlB;rw[ByteArray.size_extract];omega))
  |((refine Le.int ?_;rw[IntKind.wrap_i64];have:=sumI_bd e.blob;omega))
  |(with_reducible exact Le.bool (sNe_eq e))
  |(exact ⟨by omega,by omega⟩)
  |((exact okw _ (by omega) (by omega)))
  |((refine Le.of ?_;rw[(dc_s (by with_reducible assumption)).1,(dc_s (by with_reducible assumption)).2,←zT256_eq];done))
  |((refine Le.int ?_;exact (b0_eq _).trans hk))
  |(with_reducible exact Le.of (congrArg (fun q=>SV.c (.l (.v (.string q)))) (tlB_eq _)))
  |(with_reducible exact Le.of (congrArg (fun l=>SV.c (.agg l)) (tl_take _)))
  |(with_reducible exact Le.bool (zeroT_lsB _))
  |(with_reducible exact Le.of (congrArg (fun l=>SV.c (.agg l)) (clnT_lsB _)))
  |(with_reducible exact Le.bool (congrArg Bool.not (same_lsB _ _)))
  |(with_reducible exact eq38L rfl rfl)
  |(with_reducible exact Le.bool (fnB_eq _ _))
  |((refine Le.of ?_;rw[(dc_f (by with_reducible assumption) (k2 hk).1 (k2 hk).2 (by with_reducible assumption)).1,(dc_f (by with_reducible assumption) (k2 hk).1 (k2 hk).2 (by with_reducible assumption)).2,←zT256_eq];done))
  |((refine Le.of ?_;rw[(dc_t (by with_reducible assumption) (k2 hk).1 (k2 hk).2 (by with_reducible assumption)).1,(dc_t (by with_reducible assumption) (k2 hk).1 (k2 hk).2 (by with_reducible assumption)).2];done))
  |(exact BkR.of (by kernel_rfl))
  |(simp only[*,Bool.and_self,Bool.not_false,Bool.not_true];done)
def cz_C79_3 (e:EN) (N:Nat) (d:Int):Cz:={
 ct:=(fun f=>match f with
 |53=>some fun _ _S ar=>match ar with | [.c (.l (.v (.string q)))]=>some {v:=iv .u32 (sumI q),rd:=[],wr:=[],nw:=0}|_=>none
 |66=>some fun _ _S ar=>match ar with | [.c (.agg l)]=>some {v:=.c (.agg (tl (clnT (lsB l)))),rd:=[],wr:=[],nw:=0}|_=>none
 |108=>some fun _ _S ar=>match ar with | [.c (.agg l)]=>some {v:=bv (zeroT (lsB l)),rd:=[],wr:=[],nw:=0}|_=>none
 |137=>some fun _ _S ar=>match ar with | []=>some {v:=.c (.agg [.f 168 [],.f 169 [],.f 171 []]),rd:=[],wr:=[],nw:=0}|_=>none
 |168=>some fun _ _S ar=>match ar with | [.c (.l (.v (.string q)))]=>some {v:=.tup [.agg (tl (d0T q)),.l (.v (.bool (d0B q)))],rd:=[],wr:=[],nw:=0}|_=>none
 |169=>some fun _ _S ar=>match ar with | [.c (.l (.v (.string q)))]=>some {v:=.tup [.agg (tl (d1T q)),.l (.v (.bool (d1B q)))],rd:=[],wr:=[],nw:=0}|_=>none
 |171=>some fun _ _S ar=>match ar with | [.c (.l (.v (.string q)))]=>some {v:=.tup [.agg (tl (d2T q)),.l (.v (.bool (d2B q)))],rd:=[],wr:=[],nw:=0}|_=>none
 |_=>none)
 eq:=(fun t=>match t with
 |38=>some (fun xs ys=>sameT (lsB xs) (lsB ys))
 |_=>none)
 raw:=[],sym:=[28],nf:=[(20,iv .i64 (sumI e.blob)),(23,bv (sNe e)),(29,iv .i64 (kB e.blob)),(31,bv true)],ap:=true,off:=[],on:=[],lp:=fun _=>none,un:=0,wh:=[38,180]}
set_option maxRecDepth 100000 in
set_option maxHeartbeats 400000 in
theorem C79_3 (e:EN) (N:Nat) (d:Int) (hb:1≤e.blob.size) (hz:e.blob.size≤1000000000000000) (h0:0≤d) (hd:d≤1000000000) (hk:kB e.blob≥3):CallOK Tryz.prog 79 [.c (.l (.p 0 0)),ag [li e.X,li e.Y,ub e.a,ub e.b,ub e.c,ub e.d,li e.sum,.v (.string e.blob)]] [(0,⟨[.o 1 N,li d],.t 125⟩)] 2 (.tup [.agg (tl (dcT e)),.l (li (dcE e))]) [(0,⟨[.o 1 N,li (d+1)],.t 125⟩)] 0:=by
 refine call_ok (cx:=cz_C79_3 e N d) (nm:=[]) rfl Tryz.func79 (body:=Tryz.f79.body.getD .skip) rfl enters79 (by kernel_rfl) ?_
 apply of_eq (q:=IntKind.i64.wrap (d+1)=d+1∧CallOKd Tryz.prog 53 [] [SV.c (Cp.l (Leaf.v (Value.string e.blob)))] [] 4 (iv IntKind.u32 (sumI e.blob)) [] 0∧Le (iv IntKind.i64 (IntKind.i64.wrap (sumI e.blob))) (iv IntKind.i64 (sumI e.blob))∧Le (bv (sumI e.blob != e.sum)) (bv (sNe e))∧HB (sNe e) (0=0∧256=256∧Le (SV.tup [Cp.agg zT256,Cp.l (li 12)]) (SV.tup [Cp.agg (tl (dcT e)),Cp.l (li (dcE e))])∧BkR (rnId 2 0 []) (Blk.mk [Leaf.o 1 N,li (d+1)] (BT.t 125)) (Blk.mk [Leaf.o 1 N,li (d+1)] (BT.t 125))∧True) (CallOKd Tryz.prog 137 [] [] [] 4 (ag [Leaf.f 168 [],Leaf.f 169 [],Leaf.f 171 []]) [] 0∧0=0∧3=3∧InR 0 e.blob.size∧Le (iv IntKind.i64 (IntKind.i64.wrap (Nat.cast ((e.blob.get! (Int.toNat 0)).toNat):Int))) (iv IntKind.i64 (kB e.blob))∧Le (bv (decide (kB e.blob≥3))) (bv true)∧0=0∧256=256∧Le (SV.tup [Cp.agg zT256,Cp.l (li 11)]) (SV.tup [Cp.agg (tl (dcT e)),Cp.l (li (dcE e))])∧BkR (rnId 2 0 []) (Blk.mk [Leaf.o 1 N,li (d+1)] (BT.t 125)) (Blk.mk [Leaf.o 1 N,li (d+1)] (BT.t 125))∧True)) (by kernel_rfl)
 repeat' (first|exact trivial|with_reducible apply And.intro|(with_reducible apply HB.mk)|with_reducible intro _)
 all_goals first
  |(with_reducible rfl)
  |((with_reducible refine op7 _ ?_ _;omega))
  |((with_reducible exact C137 _))
  |((refine Le.int ?_;rw[IntKind.wrap_i64];have:=sumI_bd e.blob;omega))
  |(with_reducible exact Le.bool (sNe_eq e))
  |(exact ⟨by omega,by omega⟩)
  |((exact okw _ (by omega) (by omega)))
  |((refine Le.of ?_;rw[(dc_s (by with_reducible assumption)).1,(dc_s (by with_reducible assumption)).2,←zT256_eq];done))
  |((refine Le.int ?_;exact b0_eq _))
  |((refine Le.bool ?_;exact decide_eq_true hk))
  |((refine Le.of ?_;rw[(dc_f (by with_reducible assumption) (k3 hk).1 (k3 hk).2 rfl).1,(dc_f (by with_reducible assumption) (k3 hk).1 (k3 hk).2 rfl).2,←zT256_eq];done))
  |(exact BkR.of (by kernel_rfl))
end Ab
end Go.Proofs.YtpdckpifhniioaaGreat
end
section
set_option linter.unusedVariables false
set_option linter.unusedSimpArgs false
namespace Go.Proofs.YtpdckpifhniioaaGreat
open Go.RowKit
namespace Ab
attribute [local irreducible] CallOKd
theorem not_f' {b:Bool} (h:b=false):(!b)=true:=by rw[h];rfl
theorem mE_t {b:Bool} (h:b=true):(!b)=false:=by rw[h];rfl
theorem decode_0 (e:EN) (N:Nat) (d:Int) (hb:1≤e.blob.size) (hz:e.blob.size≤1000000000000000) (h0:0≤d) (hd:d≤1000000000):CallOK Tryz.prog 79 [.c (.l (.p 0 0)),ag [li e.X,li e.Y,ub e.a,ub e.b,ub e.c,ub e.d,li e.sum,.v (.string e.blob)]] [(0,⟨[.o 1 N,li d],.t 125⟩)] 2 (.tup [.agg (tl (dcT e)),.l (li (dcE e))]) [(0,⟨[.o 1 N,li (d+1)],.t 125⟩)] 0:=by
 by_cases k0:kB e.blob=0
 ·exact C79_0 e N d hb hz h0 hd k0
 ·by_cases k1:kB e.blob=1
  ·exact C79_1 e N d hb hz h0 hd k1
  ·by_cases k2:kB e.blob=2
   ·exact C79_2 e N d hb hz h0 hd k2
   ·refine C79_3 e N d hb hz h0 hd ?_
    have:0≤kB e.blob:=Int.natCast_nonneg _
    omega
theorem decode_any (e:EN) (N:Nat) (d:Int) (hb:1≤e.blob.size) (hz:e.blob.size≤1000000000000000) (h0:0≤d) (hd:d≤1000000000) (id i n:Nat) (h1:id<n) (h2:i<n) (h3:id≠i) :
  CallOK Tryz.prog 79 [.c (.l (.p id 0)),.c (.agg (en e))] [(id,⟨[.o i N,li d],.t 125⟩)] n (.tup [.agg (tl (dcT e)),.l (li (dcE e))]) [(id,⟨[.o i N,li (d+1)],.t 125⟩)] 0:=by
 have key:=CallOKd.at2 (decode_0 e N d hb hz h0 hd) id i n h1 h2 h3
 simp only[List.map_cons,List.map_nil,Blk.ren,SV.ren,Cp.ren,ren_plain (plain_tl _)] at key
 exact key
def mE (L:List EN) (x y:Int) (j:Nat):Bool:=(ea L j).X==x&&(ea L j).Y==y
def fnd (L:List EN) (x y:Int):Int:=match (List.range L.length).find? (mE L x y) with|some j=>((j:Nat):Int)|none=>-1
def I77 (L:List EN) (x y:Int) (k:Nat):St:=⟨[(8,iv .i64 (k:Nat)),(7,iv .i64 (L.length:Nat)),(0,.c (.l (.o 0 L.length))),(1,.c (.l (.f 78 [(1,0)])))],[(0,some ⟨ens L,.r 123 8 0⟩),(1,some ⟨[li x,li y],.t 40⟩)],2,19,[],(2)⟩
def Q77 (L:List EN) (x y:Int) (k:Nat):St:=⟨[(4,iv .i64 (k:Nat))],[],2,19,[],(2)⟩
theorem fnd_none {L:List EN} {x y:Int} (h:∀j,j<L.length→(!mE L x y j)=true):fnd L x y = -1:=by
 unfold fnd
 have:(List.range L.length).find? (mE L x y)=none:=by
  rw[List.find?_eq_none]
  intro j hj
  have:=h j (List.mem_range.1 hj)
  simpa using this
 rw[this]
theorem find_range (p:Nat→Bool):∀(n j:Nat),j<n→p j=true→(∀i,i<j→p i=false)→(List.range n).find? p=some j:=by
 intro n j hj hp hb
 rw[List.find?_range_eq_some]
 exact ⟨hp,List.mem_range.2 hj,fun i hi=>by simpa using hb i hi⟩
theorem fnd_some {L:List EN} {x y:Int} {j:Nat} (hj:j<L.length) (hb:∀i,i<j→(!mE L x y i)=true) (h:(!mE L x y j)=false):fnd L x y=((j:Nat):Int):=by
 unfold fnd
 rw[find_range _ _ _ hj (by simpa using h) (fun i hi=>by simpa using hb i hi)]
theorem fnd_bd (L:List EN) (x y:Int):fnd L x y = -1∨(0≤fnd L x y∧fnd L x y<L.length):=by
 unfold fnd
 cases h:(List.range L.length).find? (mE L x y) with
 |none=>exact .inl rfl
 |some j=>
  have:=List.mem_range.1 (List.mem_of_find?_eq_some h)
  right
  show 0≤((j:Nat):Int)∧((j:Nat):Int)<_
  omega
theorem mE_eq (L:List EN) (x y:Int) (k:Nat):((ea L k).X==x&&(ea L k).Y==y)=mE L x y k:=rfl
theorem enters78:Enters Tryz.prog 78:=fun args w=>by go_simp
def cz_C78 (e:EN) (x y:Int):Cz:={
 ct:=(fun f=>match f with
 |_=>none)
 eq:=(fun t=>match t with
 |40=>some (fun xs ys=>match xs,ys with | [.v (.int _ a0),.v (.int _ a1)],[.v (.int _ b0),.v (.int _ b1)]=>(a0==b0&&a1==b1)|_,_=>false)
 |_=>none)
 raw:=[],sym:=[],nf:=[],ap:=true,off:=[],on:=[],lp:=fun _=>none,un:=0}
set_option maxRecDepth 100000 in
set_option maxHeartbeats 400000 in
theorem C78 (e:EN) (x y:Int)  : CallOK Tryz.prog 78 [ag [li e.X,li e.Y,ub e.a,ub e.b,ub e.c,ub e.d,li e.sum,.v (.string e.blob)],.c (.l (.p 0 0))] [(0,⟨[li x,li y],.t 40⟩)] 1 (bv (e.X==x&&e.Y==y)) [] 0:=by
 refine call_ok (cx:=cz_C78 e x y) (nm:=[]) rfl Tryz.func78 (body:=Tryz.f78.body.getD .skip) rfl enters78 (by kernel_rfl) ?_
 apply of_eq (q:=EqOK Tryz.prog 40 [li e.X,li e.Y] [li x,li y] (e.X==x&&e.Y==y)∧Le (bv (e.X==x&&e.Y==y)) (bv (e.X==x&&e.Y==y))∧True) (by kernel_rfl)
 repeat' (first|exact trivial|with_reducible apply And.intro|(with_reducible apply HB.mk)|with_reducible intro _)
 all_goals first
  |(with_reducible exact Le.refl _)
  |(exact eq40 _ _ _ _)
theorem C78g (e:EN) (x y:Int) (id n:Nat) (hi:id<n):CallOK Tryz.prog 78 [.c (.agg (en e)),.c (.l (.p id 0))] [(id,⟨[li x,li y],.t 40⟩)] n (bv (e.X==x&&e.Y==y)) [] 0:=CallOK.at1 (C78 e x y) id n hi
def cz_R77 (L:List EN) (x y:Int) (k:Nat):Cz:={
 ct:=(fun f=>match f with
 |78=>some fun _ _S ar=>match ar with | [.c (.agg [.v (.int _ X),.v (.int _ Y),_,_,_,_,_,_]),.c (.l (.p i _))]=>some {v:=bv (X==x&&Y==y),rd:=[i],wr:=[],nw:=0}|_=>none
 |_=>none)
 eq:=(fun t=>match t with
 |_=>none)
 raw:=[],sym:=[14,15],nf:=[(15,.c (.agg (en (ea L k)))),(16,bv (mE L x y k))],ap:=true,off:=[],on:=[],lp:=fun _=>none,un:=0}
set_option maxRecDepth 100000 in
theorem R77 (L:List EN) (x y:Int) (k:Nat)  (K:Exit→St→Prop) (h:HB (decide ((Nat.cast k:Int)<(Nat.cast L.length:Int))) (InR ((Nat.cast k:Int)) L.length∧((Nat.cast k:Int)).toNat*8+8≤(ens L).length∧Le (ag (List.take 8 (List.drop (((Nat.cast k:Int)).toNat*8) (ens L)))) (ag (en (ea L k)))∧CallOKd Tryz.prog 78 [] [ag (en (ea L k)),SV.c (Cp.l (Leaf.p 1 0))] [(1,Blk.mk [li x,li y] (BT.t 40))] 2 (bv ((ea L k).X==x&&(ea L k).Y==y)) [] 0∧Le (bv ((ea L k).X==x&&(ea L k).Y==y)) (bv (mE L x y k))∧HB (mE L x y k) (wkK 2 K Exit.ret (St.mk [(0,SV.c (Cp.l (Leaf.o 0 L.length))),(1,SV.c (Cp.l (Leaf.f 78 [(1,0)]))),(4,iv IntKind.i64 (Nat.cast k:Int)),(7,iv IntKind.i64 (Nat.cast L.length:Int)),(8,iv IntKind.i64 (Nat.cast k:Int))] [(0,some (Blk.mk (ens L) (BT.r 123 8 0))),(1,some (Blk.mk [li x,li y] (BT.t 40)))] 2 19 [] 2)) (IntKind.i64.wrap ((Nat.cast k:Int)+1)=(Nat.cast k:Int)+1∧RoundTo Tryz.prog ((getLoop 2 (Tryz.f77.body.getD Code.skip)).getD Code.skip) 2 (wkK 2 K) (St.mk [(0,SV.c (Cp.l (Leaf.o 0 L.length))),(1,SV.c (Cp.l (Leaf.f 78 [(1,0)]))),(4,SV.u),(7,iv IntKind.i64 (Nat.cast L.length:Int)),(8,iv IntKind.i64 ((Nat.cast k:Int)+1))] [(0,some (Blk.mk (ens L) (BT.r 123 8 0))),(1,some (Blk.mk [li x,li y] (BT.t 40)))] 2 19 [] 2))) (wkK 2 K (Exit.exit 0) (St.mk [(0,SV.c (Cp.l (Leaf.o 0 L.length))),(1,SV.c (Cp.l (Leaf.f 78 [(1,0)]))),(4,SV.u),(7,iv IntKind.i64 (Nat.cast L.length:Int)),(8,iv IntKind.i64 (Nat.cast k:Int))] [(0,some (Blk.mk (ens L) (BT.r 123 8 0))),(1,some (Blk.mk [li x,li y] (BT.t 40)))] 2 19 [] 2))):WPL Tryz.prog ((getLoop 2 (Tryz.f77.body.getD .skip)).getD .skip) (I77 L x y k) (wkK 2 K):=
 wp_roundT [0,1,4,7,8] [0,1] (cx:=cz_R77 L x y k) rfl (of_eq (by kernel_rfl) h)
set_option maxRecDepth 100000 in
set_option maxHeartbeats 4000000 in
theorem L77 (L:List EN) (x y:Int) (hL:L.length≤1024):∀(m k:Nat),L.length-k=m→k≤L.length→(∀j,j<k→(!mE L x y j)=true)→∀(K:Exit→St→Prop),((∀j,j<L.length→(!mE L x y j)=true)→K (.exit 0) (I77 L x y L.length))→(∀j,j<L.length→(∀i,i<j→(!mE L x y i)=true)→(!mE L x y j)=false→K .ret (Q77 L x y j))→WPL Tryz.prog ((getLoop 2 (Tryz.f77.body.getD .skip)).getD .skip) (I77 L x y k) (wkK 2 K)
 |0,k,hm,hk,hall,K,hK,hR=>by
  have e:k=L.length:=by omega
  subst e
  refine R77 L x y _ K (HB.mk (fun hne=>absurd (of_decide_eq_true hne) (by omega)) (fun he=>?_))
  exact wkK.to (I77 L x y _) (Nat.le_refl _) (by kernel_rfl) (wkE_cons (LeN.sl (by kernel_rfl) rfl) (wkE_cons (LeN.sl (by kernel_rfl) rfl) (wkE_cons (LeN.sl (by kernel_rfl) rfl) (wkE_cons (LeN.sl (by kernel_rfl) rfl) trivial)))) (wkH_cons (BkN.plain (cs:=ens L) (b:=.r 123 8 0) (by kernel_rfl) (rfl) (plain_ens _) (by kernel_rfl)) (wkH_cons (BkN.blk (k:=⟨[li x,li y],.t 40⟩) (by kernel_rfl) (rfl) (by kernel_rfl)) trivial)) (hK hall)
 |m+1,k,hm,hk,hall,K,hK,hR=>by
  refine R77 L x y k K (HB.mk (fun hne=>?_) (fun he=>absurd (show ((k:Nat):Int)<(L.length:Nat) by omega) (of_decide_eq_false he)))
  have hlt:k<L.length:=by omega
  repeat' (first|exact trivial|with_reducible apply And.intro|(with_reducible apply HB.mk)|with_reducible intro _)
  all_goals first
   |((with_reducible exact C78g _ x y _ _ (by omega)))
   |(exact ⟨by omega,by omega⟩)
   |((rw[ens_len];omega))
   |((refine Le.of ?_;simp only[tn,Nat.zero_add,Nat.add_zero];rw[ens_at hlt]))
   |(with_reducible exact Le.bool (mE_eq _ _ _ _))
   |(have hcnd:(mE L x y k)=false:=(by with_reducible assumption);(with_reducible refine RoundTo.toN 2 (I77 L x y (k+1)) ?_ ?_ ?_ ?_ ?_);exact Nat.le_refl _;kernel_rfl;exact (wkE_cons (LeN.sl (by kernel_rfl) rfl) (wkE_cons (LeN.sl (by kernel_rfl) rfl) (wkE_cons (LeN.sl (by kernel_rfl) rfl) (wkE_cons (LeN.sl (by kernel_rfl) rfl) trivial))));exact (wkH_cons (BkN.plain (cs:=ens L) (b:=.r 123 8 0) (by kernel_rfl) (rfl) (plain_ens _) (by kernel_rfl)) (wkH_cons (BkN.blk (k:=⟨[li x,li y],.t 40⟩) (by kernel_rfl) (rfl) (by kernel_rfl)) trivial));exact (L77 L x y hL m (k+1) (by omega) (by omega) (fun j hj=>by rcases Nat.lt_or_ge j k with h|h;exact hall j h;have e:j=k:=(by omega);subst e;exact (not_f' hcnd)) K hK hR))
   |(exact wkK.to (Q77 L x y k) (Nat.le_refl _) (by kernel_rfl) (wkE_cons (LeN.sl (by kernel_rfl) rfl) trivial) trivial (hR k hlt hall ((mE_t (by with_reducible assumption)))))
   |(exact okw _ (by omega) (by omega))
theorem enters77:Enters Tryz.prog 77:=fun args w=>by go_simp
def cz_C77 (L:List EN) (x y:Int):Cz:={
 ct:=(fun f=>match f with
 |_=>none)
 eq:=(fun t=>match t with
 |_=>none)
 raw:=[],sym:=[],nf:=[],ap:=true,off:=[],on:=[],lp:=fun r=>match r with|2=>some (fun _ K=>((∀j,j<L.length→(!mE L x y j)=true)→K (.exit 0) (I77 L x y L.length))∧(∀j,j<L.length→(∀i,i<j→(!mE L x y i)=true)→(!mE L x y j)=false→K .ret (Q77 L x y j)))|_=>none,un:=0}
set_option maxRecDepth 100000 in
set_option maxHeartbeats 400000 in
theorem C77 (L:List EN) (x y:Int) (hL:L.length≤1024):CallOK Tryz.prog 77 [.c (.l (.o 0 L.length)),.c (.l (.f 78 [(1,0)]))] [(0,⟨ens L,.r 123 8 0⟩),(1,⟨[li x,li y],.t 40⟩)] 2 (iv .i64 (fnd L x y)) [] 0:=by
 refine call_ok (cx:=cz_C77 L x y) (nm:=[]) rfl Tryz.func77 (body:=Tryz.f77.body.getD .skip) rfl enters77 (by unfold inck;simp only[List.all_cons,List.all_nil,blkLt_plain (plain_ens L) (show (BT.rn (rnId 2 0 []) (.r 123 8 0)).isSome=true from rfl),Bool.and_true,Bool.true_and];kernel_rfl) ?_
 apply of_eq (q:=(LoopOK Tryz.prog ((getLoop 2 (Tryz.f77.body.getD .skip)).getD .skip) (St.mk [(8,iv IntKind.i64 0),(7,iv IntKind.i64 (Nat.cast L.length:Int)),(6,SV.c (Cp.l (Leaf.o 0 L.length))),(4,iv IntKind.i64 0),(0,SV.c (Cp.l (Leaf.o 0 L.length))),(1,SV.c (Cp.l (Leaf.f 78 [(1,0)])))] [(0,some (Blk.mk (ens L) (BT.r 123 8 0))),(1,some (Blk.mk [li x,li y] (BT.t 40)))] 2 19 [] 2) fun K=>((∀(j:Nat),j<L.length→(!mE L x y j)=true)→K (Exit.exit 0) (I77 L x y L.length))∧∀(j:Nat),j<L.length→(∀(i:Nat),i<j→(!mE L x y i)=true)→(!mE L x y j)=false→K Exit.ret (Q77 L x y j))∧((∀(j:Nat),j<L.length→(!mE L x y j)=true)→Le (iv IntKind.i64 (-1)) (iv IntKind.i64 (fnd L x y))∧True)∧∀(j:Nat),j<L.length→(∀(i:Nat),i<j→(!mE L x y i)=true)→(!mE L x y j)=false→Le (iv IntKind.i64 (Nat.cast j:Int)) (iv IntKind.i64 (fnd L x y))∧True) (by kernel_rfl)
 repeat' (first|exact trivial|with_reducible apply And.intro|(with_reducible apply HB.mk)|with_reducible intro _)
 all_goals first
  |(exact LoopOK.mk (I77 L x y 0) rfl (by kernel_rfl) (wkE_cons (LeN.sl (by kernel_rfl) rfl) (wkE_cons (LeN.sl (by kernel_rfl) rfl) (wkE_cons (LeN.sl (by kernel_rfl) rfl) (wkE_cons (LeN.sl (by kernel_rfl) rfl) trivial)))) (wkH_cons (BkN.plain (cs:=ens L) (b:=.r 123 8 0) (by kernel_rfl) (rfl) (plain_ens _) (by kernel_rfl)) (wkH_cons (BkN.blk (k:=⟨[li x,li y],.t 40⟩) (by kernel_rfl) (rfl) (by kernel_rfl)) trivial)) (fun K hT=>L77 L x y hL _ 0 rfl (Nat.zero_le _) (fun j hj=>absurd hj (Nat.not_lt_zero j)) K hT.1 hT.2))
  |((refine Le.int ?_;exact (fnd_none (by with_reducible assumption)).symm))
  |((refine Le.int ?_;exact (fnd_some (by with_reducible assumption) (by with_reducible assumption) (by with_reducible assumption)).symm))
end Ab
end Go.Proofs.YtpdckpifhniioaaGreat
end
section
set_option linter.unusedVariables false
set_option linter.unusedSimpArgs false
namespace Go.Proofs.YtpdckpifhniioaaGreat
open Go.RowKit
namespace Ab
attribute [local irreducible] CallOKd
theorem idle_ok {P:Program} {f:Nat} {dc:List (Nat×Nat×Bool)} {args:List SV} {H:List (Nat×Blk)} {n:Nat} {v:SV} (h:CallOKd P f dc args H n v [] 0) (id:Nat) (k:Blk) (hk:lk H id=some k):CallOKd P f dc args H n v [(id,k)] 0:=by
 unfold CallOKd at h⊢
 refine ⟨h.1,fun β x vals ha hi hl hn hb hd=>(h.2 β x vals ha hi hl hn hb hd).mono ?_⟩
 rintro e x' ⟨y,β',rfl,D⟩
 refine ⟨y,β',rfl,D.den,D.ext,D.new,D.newc,D.inj,D.lt,D.os,D.tape,D.output,D.size,fun q hq _=>D.keep q hq (fun _ _=>rfl),fun i b k' hb' hk'=>?_⟩
 by_cases e:id=i
 ·subst e
  rw[lk_cons_eq] at hk'
  obtain rfl:=Option.some.inj hk'
  rcases D.new id b hb' with h1|⟨h1,h2,h3⟩
  ·exact (hb id b _ h1 hk).ext D.ext (D.keep b (hl id b h1) (fun _ _=>rfl))
  ·omega
 ·rw[lk_cons_ne _ _ e] at hk';cases hk'
def GoodB (L:List EN):Prop:=L.length≤1024∧∀k,k<L.length→1≤(ea L k).blob.size∧(ea L k).blob.size≤257
def fE (L:List EN) (x y:Int):EN:=ea L (fnd L x y).toNat
def tlT (L:List EN) (x y:Int):Nat→UInt8:=bif decide (fnd L x y<0) then zT else dcT (fE L x y)
def tlE (L:List EN) (x y:Int):Int:=bif decide (fnd L x y<0) then 0 else dcE (fE L x y)
def tlC (L:List EN) (x y:Int):Int:=bif decide (fnd L x y<0) then 0 else 1
theorem GoodB.len {L:List EN} (h:GoodB L):L.length≤1024:=h.1
theorem C77g (L:List EN) (x y:Int) (hL:L.length≤1024) (i q n:Nat) (h1:i<n) (h2:q<n) (h3:i≠q):CallOK Tryz.prog 77 [.c (.l (.o i L.length)),.c (.l (.f 78 [(q,0)]))] [(i,⟨ens L,.r 123 8 i⟩),(q,⟨[li x,li y],.t 40⟩)] n (iv .i64 (fnd L x y)) [] 0:=by
 have key:=CallOKd.at2 (C77 L x y hL) i q n h1 h2 h3
 simp only[List.map_cons,List.map_nil,Blk.ren,SV.ren,Cp.ren,Leaf.ren,BT.ren,ren_plain (plain_ens _)] at key
 exact key
theorem f_in {L:List EN} {x y:Int} (hf:0≤fnd L x y):(fnd L x y).toNat<L.length:=by
 rcases fnd_bd L x y with h|h<;>omega
theorem f_bd {L:List EN} {x y:Int} (hG:GoodB L) (hf:0≤fnd L x y):1≤(fE L x y).blob.size∧(fE L x y).blob.size≤1000000000000000:=by
 have:=hG.2 _ (f_in hf)
 unfold fE
 omega
theorem enters22:Enters Tryz.prog 22:=fun args w=>by go_simp
def cz_C22a (L:List EN) (x y d:Int):Cz:={
 ct:=(fun f=>match f with
 |77=>some fun _ _S ar=>match ar with | [.c (.l (.o i _)),.c (.l (.f _ [(q,_)]))]=>some {v:=iv .i64 (fnd L x y),rd:=[i,q],wr:=[],nw:=0}|_=>none
 |79=>some fun _ _S ar=>match ar with | [.c (.l (.p i _)),.c (.agg _)]=>some {v:=.tup [.agg (tl (dcT (fE L x y))),.l (li (dcE (fE L x y)))],rd:=[i],wr:=[(i,⟨[.o 1 L.length,li (d+1)],.t 125⟩)],nw:=0}|_=>none
 |_=>none)
 eq:=(fun t=>match t with
 |_=>none)
 raw:=[],sym:=[],nf:=[(17,bv true)],ap:=true,off:=[],on:=[],lp:=fun _=>none,un:=0,wh:=[38]}
set_option maxRecDepth 100000 in
set_option maxHeartbeats 400000 in
theorem C22a (L:List EN) (x y d:Int) (hG:GoodB L) (hf:fnd L x y<0):CallOK Tryz.prog 22 [.c (.l (.p 0 0)),ag [li x,li y]] [(0,⟨[.o 1 L.length,li d],.t 125⟩),(1,⟨ens L,.r 123 8 1⟩)] 2 (.tup [.agg (tl zT),.l (li 0)]) [] 0:=by
 refine call_ok (cx:=cz_C22a L x y d) (nm:=[]) rfl Tryz.func22 (body:=Tryz.f22.body.getD .skip) rfl enters22 (by unfold inck;simp only[List.all_cons,List.all_nil,blkLt_plain (plain_ens L) (show (BT.rn (rnId 2 0 []) (.r 123 8 1)).isSome=true from rfl),Bool.and_true,Bool.true_and];kernel_rfl) ?_
 apply of_eq (q:=CallOKd Tryz.prog 77 [] [SV.c (Cp.l (Leaf.o 1 L.length)),SV.c (Cp.l (Leaf.f 78 [(2,0)]))] [(1,Blk.mk (ens L) (BT.r 123 8 1)),(2,Blk.mk [li x,li y] (BT.t 40))] 4 (iv IntKind.i64 (fnd L x y)) [] 0∧Le (bv (decide (fnd L x y<0))) (bv true)∧0=0∧256=256∧Le (SV.tup [Cp.agg zT256,Cp.l (li 0)]) (SV.tup [Cp.agg (tl zT),Cp.l (li 0)])∧True) (by kernel_rfl)
 repeat' (first|exact trivial|with_reducible apply And.intro|(with_reducible apply HB.mk)|with_reducible intro _)
 all_goals first
  |(with_reducible rfl)
  |(((with_reducible refine C77g L x y hG.len _ _ _ ?_ ?_ ?_)<;>omega))
  |(with_reducible exact Le.bool (decide_eq_true hf))
  |((refine Le.of ?_;rw[←zT256_eq];done))
def cz_C22b (L:List EN) (x y d:Int):Cz:={
 ct:=(fun f=>match f with
 |77=>some fun _ _S ar=>match ar with | [.c (.l (.o i _)),.c (.l (.f _ [(q,_)]))]=>some {v:=iv .i64 (fnd L x y),rd:=[i,q],wr:=[],nw:=0}|_=>none
 |79=>some fun _ _S ar=>match ar with | [.c (.l (.p i _)),.c (.agg _)]=>some {v:=.tup [.agg (tl (dcT (fE L x y))),.l (li (dcE (fE L x y)))],rd:=[i],wr:=[(i,⟨[.o 1 L.length,li (d+1)],.t 125⟩)],nw:=0}|_=>none
 |_=>none)
 eq:=(fun t=>match t with
 |_=>none)
 raw:=[],sym:=[25,26],nf:=[(17,bv false),(26,.c (.agg (en (fE L x y))))],ap:=true,off:=[],on:=[],lp:=fun _=>none,un:=0,wh:=[38]}
set_option maxRecDepth 100000 in
set_option maxHeartbeats 400000 in
theorem C22b (L:List EN) (x y d:Int) (hG:GoodB L) (h0:0≤d) (hd:d≤1000000000) (hf:0≤fnd L x y):CallOK Tryz.prog 22 [.c (.l (.p 0 0)),ag [li x,li y]] [(0,⟨[.o 1 L.length,li d],.t 125⟩),(1,⟨ens L,.r 123 8 1⟩)] 2 (.tup [.agg (tl (dcT (fE L x y))),.l (li (dcE (fE L x y)))]) [(0,⟨[.o 1 L.length,li (d+1)],.t 125⟩)] 0:=by
 refine call_ok (cx:=cz_C22b L x y d) (nm:=[]) rfl Tryz.func22 (body:=Tryz.f22.body.getD .skip) rfl enters22 (by unfold inck;simp only[List.all_cons,List.all_nil,blkLt_plain (plain_ens L) (show (BT.rn (rnId 2 0 []) (.r 123 8 1)).isSome=true from rfl),Bool.and_true,Bool.true_and];kernel_rfl) ?_
 apply of_eq (q:=CallOKd Tryz.prog 77 [] [SV.c (Cp.l (Leaf.o 1 L.length)),SV.c (Cp.l (Leaf.f 78 [(2,0)]))] [(1,Blk.mk (ens L) (BT.r 123 8 1)),(2,Blk.mk [li x,li y] (BT.t 40))] 4 (iv IntKind.i64 (fnd L x y)) [] 0∧Le (bv (decide (fnd L x y<0))) (bv false)∧InR (fnd L x y) L.length∧(fnd L x y).toNat*8+8≤(ens L).length∧Le (ag (List.take 8 (List.drop ((fnd L x y).toNat*8) (ens L)))) (ag (en (fE L x y)))∧CallOKd Tryz.prog 79 [] [SV.c (Cp.l (Leaf.p 0 0)),ag (en (fE L x y))] [(0,Blk.mk [Leaf.o 1 L.length,li d] (BT.t 125))] 4 (SV.tup [Cp.agg (tl (dcT (fE L x y))),Cp.l (li (dcE (fE L x y)))]) [(0,Blk.mk [Leaf.o 1 L.length,li (d+1)] (BT.t 125))] 0∧0=0∧256=256∧Le (SV.tup [Cp.agg (tl (dcT (fE L x y))),Cp.l (li (dcE (fE L x y)))]) (SV.tup [Cp.agg (tl (dcT (fE L x y))),Cp.l (li (dcE (fE L x y)))])∧BkR (rnId 2 0 []) (Blk.mk [Leaf.o 1 L.length,li (d+1)] (BT.t 125)) (Blk.mk [Leaf.o 1 L.length,li (d+1)] (BT.t 125))∧True) (by kernel_rfl)
 repeat' (first|exact trivial|with_reducible apply And.intro|(with_reducible apply HB.mk)|with_reducible intro _)
 all_goals first
  |(with_reducible exact Le.refl _)
  |(with_reducible rfl)
  |(((with_reducible refine C77g L x y hG.len _ _ _ ?_ ?_ ?_)<;>omega))
  |(((with_reducible refine decode_any (fE L x y) L.length d (f_bd hG hf).1 (f_bd hG hf).2 h0 hd _ _ _ ?_ ?_ ?_)<;>omega))
  |((refine Le.bool (decide_eq_false ?_);omega))
  |((have:=f_in hf;exact ⟨by omega,by omega⟩))
  |((have:=f_in hf;rw[ens_len];omega))
  |((refine Le.of ?_;rw[ens_at (f_in hf)];rfl))
  |(exact BkR.of (by kernel_rfl))
theorem enters25:Enters Tryz.prog 25:=fun args w=>by go_simp
theorem tile_any (L:List EN) (x y d:Int) (hG:GoodB L) (h0:0≤d) (hd:d≤1000000000) (id i n:Nat) (h1:id<n) (h2:i<n) (h3:id≠i) :
  CallOK Tryz.prog 22 [.c (.l (.p id 0)),ag [li x,li y]] [(id,⟨[.o i L.length,li d],.t 125⟩),(i,⟨ens L,.r 123 8 i⟩)] n (.tup [.agg (tl (tlT L x y)),.l (li (tlE L x y))]) [(id,⟨[.o i L.length,li (d+tlC L x y)],.t 125⟩)] 0:=by
 unfold tlT tlE tlC
 by_cases hf:fnd L x y<0
 ·rw[decide_eq_true hf]
  have key:=CallOKd.at2 (idle_ok (C22a L x y d hG hf) 0 _ rfl) id i n h1 h2 h3
  simp only[List.map_cons,List.map_nil,Blk.ren,SV.ren,Cp.ren,Leaf.ren,BT.ren,ren_plain (plain_tl _),ren_plain (plain_ens _)] at key
  show CallOK _ _ _ _ _ (.tup [.agg (tl zT),.l (li 0)]) [(id,⟨[.o i L.length,li (d+0)],.t 125⟩)] _
  rw[Int.add_zero]
  exact key
 ·rw[decide_eq_false hf]
  have key:=CallOKd.at2 (C22b L x y d hG h0 hd (by omega)) id i n h1 h2 h3
  simp only[List.map_cons,List.map_nil,Blk.ren,SV.ren,Cp.ren,Leaf.ren,BT.ren,ren_plain (plain_tl _),ren_plain (plain_ens _)] at key
  exact key
end Ab
end Go.Proofs.YtpdckpifhniioaaGreat
end
