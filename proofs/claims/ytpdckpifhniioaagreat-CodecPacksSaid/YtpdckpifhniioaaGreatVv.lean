/- Part 22 of what CodecPacks rests on. -/
import Derived.Test.YtpdckpifhniioaaGreatVu
section
set_option linter.unusedVariables false
set_option linter.unusedSimpArgs false
namespace Go.Proofs.YtpdckpifhniioaaGreat
open Go.RowKit
namespace Ab
attribute [local irreducible] CallOKd
theorem enters133:Enters Tryz.prog 133:=fun args w=>by go_simp
theorem enters72:Enters Tryz.prog 72:=fun args w=>by go_simp
theorem enters73:Enters Tryz.prog 73:=fun args w=>by go_simp
theorem enters74:Enters Tryz.prog 74:=fun args w=>by go_simp
theorem enters76:Enters Tryz.prog 76:=fun args w=>by go_simp
theorem C133 (s:ByteArray) (hs:s.size≤2500000) (n:Nat):CallOK Tryz.prog 133 [.c (.l (.v (.string s)))] [] n (.c (.l (.v (.string ⟨(Cod.M.enc s.data.toList).toArray⟩)))) [] 0:=
 call_plain enters133 (vals:=[.string s]) (y:=.string ⟨(Cod.M.enc s.data.toList).toArray⟩) rfl rfl n fun x=>(Cod.rencode_any s x hs).mono fun e x' h=>⟨h.1,h.2⟩
theorem C72 (s:ByteArray) (hs:s.size≤1000000000000000000) (n:Nat):CallOK Tryz.prog 72 [.c (.l (.v (.string s)))] [] n (iv .u32 (Oct.M.sum s.data.toList:Nat)) [] 0:=
 call_plain enters72 (vals:=[.string s]) (y:=.int .u32 (Oct.M.sum s.data.toList:Nat)) rfl rfl n fun x=>(Oct.sum_ref s x hs).mono fun e x' h=>⟨h.1,by first|exact h.2|exact h.2▸Grow.refl _⟩
theorem C73 (k:Int) (n:Nat):CallOK Tryz.prog 73 [iv .i64 k] [] n (.c (.l (.v (.string ⟨(Oct.M.leb (Oct.u64 k)).toArray⟩)))) [] 0:=
 call_plain enters73 (vals:=[.int .i64 k]) (y:=.string ⟨(Oct.M.leb (Oct.u64 k)).toArray⟩) rfl rfl n fun x=>(Oct.var_ref k x).mono fun e x' h=>⟨h.1,by first|exact h.2|exact h.2▸Grow.refl _⟩
theorem C74 (k m:Int) (n:Nat):CallOK Tryz.prog 74 [iv .i64 k,iv .i64 m] [] n (.c (.l (.v (.string ⟨(Oct.M.be (Oct.sz m) (Oct.u64 k)).toArray⟩)))) [] 0:=
 call_plain enters74 (vals:=[.int .i64 k,.int .i64 m]) (y:=.string ⟨(Oct.M.be (Oct.sz m) (Oct.u64 k)).toArray⟩) rfl rfl n fun x=>(Oct.put_ref k m x).mono fun e x' h=>⟨h.1,by first|exact h.2|exact h.2▸Grow.refl _⟩
theorem C76 (s:ByteArray) (hs:s.size≤1000000000000000000) (n:Nat):CallOK Tryz.prog 76 [.c (.l (.v (.string s)))] [] n (.c (.l (.v (.string ⟨(Oct.txt s).toArray⟩)))) [] 0:=
 call_plain enters76 (vals:=[.string s]) (y:=.string ⟨(Oct.txt s).toArray⟩) rfl rfl n fun x=>(Oct.text_ref s x hs).mono fun e x' h=>⟨h.1,by first|exact h.2|exact h.2▸Grow.refl _⟩
theorem enters75:Enters Tryz.prog 75:=fun args w=>by go_simp
def cz_C75:Cz:={
 ct:=(fun f=>match f with
 |_=>none)
 eq:=(fun t=>match t with
 |_=>none)
 raw:=[],sym:=[],nf:=[],ap:=true,off:=[],on:=[],lp:=fun _=>none,un:=0,wh:=[36]}
set_option maxRecDepth 100000 in
set_option maxHeartbeats 400000 in
theorem C75 (a b c e:UInt8)  (n:Nat):CallOK Tryz.prog 75 [ag [ub a,ub b,ub c,ub e]] [] n (.c (.l (.v (.string ⟨#[a,b,c,e]⟩)))) [] 0:=by
 refine CallOK.any ?_ (by kernel_rfl) (by kernel_rfl) n
 refine call_ok (cx:=cz_C75) (nm:=[]) rfl Tryz.func75 (body:=Tryz.f75.body.getD .skip) rfl enters75 (by kernel_rfl) ?_
 apply of_eq (q:=inByte (Nat.cast a.toNat:Int)∧inByte (Nat.cast b.toNat:Int)∧inByte (Nat.cast c.toNat:Int)∧inByte (Nat.cast e.toNat:Int)∧Le (SV.c (Cp.l (Leaf.v (Value.string (strOf [(Nat.cast a.toNat:Int),(Nat.cast b.toNat:Int),(Nat.cast c.toNat:Int),(Nat.cast e.toNat:Int)]))))) (SV.c (Cp.l (Leaf.v (Value.string (ByteArray.mk #[a,b,c,e])))))∧True) (by kernel_rfl)
 repeat' (first|exact trivial|with_reducible apply And.intro|(with_reducible apply HB.mk)|with_reducible intro _)
 all_goals first
  |(with_reducible assumption)
  |(with_reducible exact Le.refl _)
  |(with_reducible rfl)
  |(exact inb _)
  |(exact Le.of (congrArg (fun s=>SV.c (.l (.v (.string s)))) (strOf_bytes [a,b,c,e])))
  |(exact okw _ (by omega) (by omega))
  |(exact Le.of rfl)
  |(exact BkR.of rfl)
  |(unfold SlOK;omega)
  |(unfold SlOK;decide)
  |(unfold inByte;decide)
  |(simp only[*,Bool.and_self,Bool.not_false,Bool.not_true];done)
  |(simp_all [wants];done)
theorem C75I (a b c e:UInt8) (n:Nat):CallOK Tryz.prog 75 [ag [ub a,ub b,ub c,ub e]] [] n (.c (.l (.v (.string ⟨#[ofI ((a.toNat:Nat):Int),ofI ((b.toNat:Nat):Int),ofI ((c.toNat:Nat):Int),ofI ((e.toNat:Nat):Int)]⟩)))) [] 0:=by
 rw[ofI_nat,ofI_nat,ofI_nat,ofI_nat];exact C75 a b c e n
def encT (t:Nat→UInt8):ByteArray:=⟨(Cod.M.enc (fwR (bestT t:Nat) t).data.toList).toArray⟩
theorem encT_cod (t:Nat→UInt8):(⟨#[2,UInt8.ofNat (bestT t)]⟩:ByteArray)++encT t=codT t:=rfl
theorem C133f (t:Nat→UInt8) (n:Nat):CallOK Tryz.prog 133 [.c (.l (.v (.string (fwR (bestT t:Nat) t))))] [] n (.c (.l (.v (.string (encT t))))) [] 0:=C133 _ (by rw[fwR_sz];decide) n
theorem encT_sz (t:Nat→UInt8):(encT t).size≤8196:=enc_sz (bestT t) t
attribute [local irreducible] solT codT bestT blobT bytesT tl sameT encT fwR
theorem enters71:Enters Tryz.prog 71:=fun args w=>by go_simp
def cz_C71 (t:Nat→UInt8):Cz:={
 ct:=(fun f=>match f with
 |75=>some fun _ _S ar=>match ar with | [.c (.agg [.v (.int _ a),.v (.int _ b),.v (.int _ c),.v (.int _ e)])]=>some {v:=.c (.l (.v (.string ⟨#[ofI a,ofI b,ofI c,ofI e]⟩))),rd:=[],wr:=[],nw:=0}|_=>none
 |131=>some fun _ _S ar=>match ar with | [.c (.agg _)]=>some {v:=.tup [.agg [ub (solP t 0),ub (solP t 1),ub (solP t 2),ub (solP t 3)],.l (.v (.bool (solT t)))],rd:=[],wr:=[],nw:=0}|_=>none
 |132=>some fun _ _S ar=>match ar with | [.c (.agg _)]=>some {v:=iv .i64 (bestT t:Nat),rd:=[],wr:=[],nw:=0}|_=>none
 |133=>some fun _ _S ar=>match ar with | [.c (.l (.v (.string s)))]=>some {v:=.c (.l (.v (.string (encT t)))),rd:=[],wr:=[],nw:=0}|_=>none
 |134=>some fun _ _S ar=>match ar with | [.c (.agg _),.c (.l (.v (.int _ p)))]=>some {v:=ag [.v (.string (fwR p t)),li 0],rd:=[],wr:=[],nw:=0}|_=>none
 |135=>some fun _ _S ar=>match ar with | [.c (.agg _)]=>some {v:=.c (.l (.v (.string (bytesT t)))),rd:=[],wr:=[],nw:=0}|_=>none
 |_=>none)
 eq:=(fun t=>match t with
 |_=>none)
 raw:=[],sym:=[],nf:=[(8,.c (.agg (tl t))),(14,.c (.l (.v (.string ⟨#[0]⟩)))),(15,ag [ub (t 0),ub (t 1),ub (t 2),ub (t 3)]),(16,.c (.l (.v (.string ⟨#[t 0,t 1,t 2,t 3]⟩)))),(18,.c (.agg (tl t))),(21,iv .u8 ((UInt8.ofNat (bestT t)).toNat:Nat)),(23,.c (.l (.v (.string ⟨#[2,UInt8.ofNat (bestT t)]⟩)))),(24,.c (.agg (tl t))),(29,.c (.l (.v (.string (codT t))))),(35,.c (.l (.v (.string ⟨#[1]⟩)))),(36,.c (.agg (tl t)))],ap:=true,off:=[],on:=[],lp:=fun _=>none,un:=0,wh:=[38,36]}
set_option maxRecDepth 100000 in
set_option maxHeartbeats 400000 in
theorem C71 (t:Nat→UInt8)  (n:Nat):CallOK Tryz.prog 71 [.c (.agg (tl t))] [] n (.c (.l (.v (.string (blobT t))))) [] 0:=by
 refine CallOK.any ?_ (by kernel_rfl) (by kernel_rfl) n
 have hb6:=bestT_lt t
 have hcs:=codT_sz t
 have hes:=encT_sz t
 have hbs:=bytesT_len t
 refine call_ok (cx:=cz_C71 t) (nm:=[]) rfl Tryz.func71 (body:=Tryz.f71.body.getD .skip) rfl enters71 (by kernel_rfl) ?_
 apply of_eq (q:=Le (ag (List.take 256 (tl t))) (ag (tl t))∧CallOKd Tryz.prog 131 [] [ag (tl t)] [] 1 (SV.tup [Cp.agg [Leaf.v (Value.int IntKind.u8 (Nat.cast ((solP t 0).toNat):Int)),Leaf.v (Value.int IntKind.u8 (Nat.cast ((solP t 1).toNat):Int)),Leaf.v (Value.int IntKind.u8 (Nat.cast ((solP t 2).toNat):Int)),Leaf.v (Value.int IntKind.u8 (Nat.cast ((solP t 3).toNat):Int))],Cp.l (lb (solT t))]) [] 0∧0=0∧4=4∧HB (solT t) (inByte 0∧Le (SV.c (Cp.l (Leaf.v (Value.string (strOf [0]))))) (SV.c (Cp.l (Leaf.v (Value.string (ByteArray.mk #[0])))))∧Le (ag [Leaf.v (Value.int IntKind.u8 (Nat.cast ((solP t 0).toNat):Int)),Leaf.v (Value.int IntKind.u8 (Nat.cast ((solP t 1).toNat):Int)),Leaf.v (Value.int IntKind.u8 (Nat.cast ((solP t 2).toNat):Int)),Leaf.v (Value.int IntKind.u8 (Nat.cast ((solP t 3).toNat):Int))]) (ag [Leaf.v (Value.int IntKind.u8 (Nat.cast ((t 0).toNat):Int)),Leaf.v (Value.int IntKind.u8 (Nat.cast ((t 1).toNat):Int)),Leaf.v (Value.int IntKind.u8 (Nat.cast ((t 2).toNat):Int)),Leaf.v (Value.int IntKind.u8 (Nat.cast ((t 3).toNat):Int))])∧CallOKd Tryz.prog 75 [] [ag [Leaf.v (Value.int IntKind.u8 (Nat.cast ((t 0).toNat):Int)),Leaf.v (Value.int IntKind.u8 (Nat.cast ((t 1).toNat):Int)),Leaf.v (Value.int IntKind.u8 (Nat.cast ((t 2).toNat):Int)),Leaf.v (Value.int IntKind.u8 (Nat.cast ((t 3).toNat):Int))]] [] 3 (SV.c (Cp.l (Leaf.v (Value.string (ByteArray.mk #[ofI (Nat.cast ((t 0).toNat):Int),ofI (Nat.cast ((t 1).toNat):Int),ofI (Nat.cast ((t 2).toNat):Int),ofI (Nat.cast ((t 3).toNat):Int)]))))) [] 0∧Le (SV.c (Cp.l (Leaf.v (Value.string (ByteArray.mk #[ofI (Nat.cast ((t 0).toNat):Int),ofI (Nat.cast ((t 1).toNat):Int),ofI (Nat.cast ((t 2).toNat):Int),ofI (Nat.cast ((t 3).toNat):Int)]))))) (SV.c (Cp.l (Leaf.v (Value.string (ByteArray.mk #[t 0,t 1,t 2,t 3])))))∧(Nat.cast (((ByteArray.mk #[0]).size+(ByteArray.mk #[t 0,t 1,t 2,t 3]).size)):Int)≤IntKind.i64.max∧Le (SV.c (Cp.l (Leaf.v (Value.string (ByteArray.mk #[0]++ByteArray.mk #[t 0,t 1,t 2,t 3]))))) (SV.c (Cp.l (Leaf.v (Value.string (blobT t)))))∧True) (Le (ag (List.take 256 (tl t))) (ag (tl t))∧CallOKd Tryz.prog 132 [] [ag (tl t)] [] 2 (iv IntKind.i64 (Nat.cast ((bestT t)):Int)) [] 0∧Le (iv IntKind.u8 (IntKind.u8.wrap (Nat.cast ((bestT t)):Int))) (iv IntKind.u8 (Nat.cast ((UInt8.ofNat (bestT t)).toNat):Int))∧inByte 2∧inByte (Nat.cast ((UInt8.ofNat (bestT t)).toNat):Int)∧Le (SV.c (Cp.l (Leaf.v (Value.string (strOf [2,(Nat.cast ((UInt8.ofNat (bestT t)).toNat):Int)]))))) (SV.c (Cp.l (Leaf.v (Value.string (ByteArray.mk #[2,UInt8.ofNat (bestT t)])))))∧Le (ag (List.take 256 (tl t))) (ag (tl t))∧CallOKd Tryz.prog 134 [] [ag (tl t),iv IntKind.i64 (Nat.cast ((bestT t)):Int)] [] 3 (ag [Leaf.v (Value.string (fwR ((Nat.cast ((bestT t)):Int)) t)),li 0]) [] 0∧CallOKd Tryz.prog 133 [] [SV.c (Cp.l (Leaf.v (Value.string (fwR ((Nat.cast ((bestT t)):Int)) t))))] [] 3 (SV.c (Cp.l (Leaf.v (Value.string (encT t))))) [] 0∧(Nat.cast (((ByteArray.mk #[2,UInt8.ofNat (bestT t)]).size+(encT t).size)):Int)≤IntKind.i64.max∧Le (SV.c (Cp.l (Leaf.v (Value.string (ByteArray.mk #[2,UInt8.ofNat (bestT t)]++encT t))))) (SV.c (Cp.l (Leaf.v (Value.string (codT t)))))∧HB (decide ((Nat.cast ((codT t).size):Int)<257)) (Le (SV.c (Cp.l (Leaf.v (Value.string (codT t))))) (SV.c (Cp.l (Leaf.v (Value.string (blobT t)))))∧True) (inByte 1∧Le (SV.c (Cp.l (Leaf.v (Value.string (strOf [1]))))) (SV.c (Cp.l (Leaf.v (Value.string (ByteArray.mk #[1])))))∧Le (ag (List.take 256 (tl t))) (ag (tl t))∧CallOKd Tryz.prog 135 [] [ag (tl t)] [] 4 (SV.c (Cp.l (Leaf.v (Value.string (bytesT t))))) [] 0∧(Nat.cast (((ByteArray.mk #[1]).size+(bytesT t).size)):Int)≤IntKind.i64.max∧Le (SV.c (Cp.l (Leaf.v (Value.string (ByteArray.mk #[1]++bytesT t))))) (SV.c (Cp.l (Leaf.v (Value.string (blobT t)))))∧True))) (by kernel_rfl)
 repeat' (first|exact trivial|with_reducible apply And.intro|(with_reducible apply HB.mk)|with_reducible intro _)
 all_goals first
  |(with_reducible assumption)
  |(with_reducible exact Le.refl _)
  |(with_reducible rfl)
  |((with_reducible exact C75I _ _ _ _ _))
  |((with_reducible exact C131 t _))
  |((with_reducible exact C132 t _))
  |((with_reducible exact C133f t _))
  |(((with_reducible refine C134 t _ ?_ ?_ _)<;>omega))
  |((with_reducible exact C135 t _))
  |(with_reducible exact Le.of (congrArg (fun l=>SV.c (.agg l)) (tl_take _)))
  |(exact inb _)
  |(with_reducible exact Le.of (congrArg (fun l=>SV.c (.agg l)) (solP_t' (by with_reducible assumption:solT t=true))))
  |((refine Le.of ?_;rw[solP_t' (by with_reducible assumption:solT t=true)];done))
  |((refine Le.of ?_;rw[ofI_nat,ofI_nat,ofI_nat,ofI_nat];done))
  |((refine Le.of ?_;rw[blobT_1 (by with_reducible assumption:solT t=true)];done))
  |((refine Le.of ?_;rw[best8];done))
  |(with_reducible exact Le.of (congrArg (fun s=>SV.c (.l (.v (.string s)))) (strOf_bytes [2,UInt8.ofNat (bestT t)])))
  |(with_reducible exact Le.of (congrArg (fun s=>SV.c (.l (.v (.string s)))) (strOf_bytes [1])))
  |(with_reducible exact Le.of (congrArg (fun s=>SV.c (.l (.v (.string s)))) (strOf_bytes [0])))
  |((refine Le.of ?_;rw[encT_cod];done))
  |((refine Le.of ?_;rw[blobT_2 (by with_reducible assumption:solT t=false) (by with_reducible assumption:decide (((codT t).size:Int)<257)=true)];done))
  |((refine Le.of ?_;rw[blobT_3 (by with_reducible assumption:solT t=false) (by with_reducible assumption:decide (((codT t).size:Int)<257)=false)];done))
  |(exact Le.of (congrArg (fun s=>SV.c (.l (.v (.string s)))) (strOf_bytes [2,UInt8.ofNat (bestT t)])))
  |(exact Le.of (congrArg (fun s=>SV.c (.l (.v (.string s)))) (strOf_bytes [1])))
  |(exact Le.of (congrArg (fun s=>SV.c (.l (.v (.string s)))) (strOf_bytes [0])))
  |((rw[IntKind.max_i64];have e0:(⟨#[0]⟩:ByteArray).size=1:=rfl;have e4:(⟨#[t 0,t 1,t 2,t 3]⟩:ByteArray).size=4:=rfl;have e2:(⟨#[2,UInt8.ofNat (bestT t)]⟩:ByteArray).size=2:=rfl;have e1:(⟨#[1]⟩:ByteArray).size=1:=rfl;omega))
  |(exact okw _ (by omega) (by omega))
  |(exact Le.of rfl)
  |(exact BkR.of rfl)
  |(unfold SlOK;omega)
  |(unfold SlOK;decide)
  |(unfold inByte;decide)
  |(simp only[*,Bool.and_self,Bool.not_false,Bool.not_true];done)
  |(simp_all [wants];done)
end Ab
end Go.Proofs.YtpdckpifhniioaaGreat
end
section
set_option linter.unusedVariables false
set_option linter.unusedSimpArgs false
namespace Go.Proofs.YtpdckpifhniioaaGreat
open Go.RowKit
namespace Ab
attribute [local irreducible] CallOKd
attribute [local irreducible] tl rws blobT
def LE (l:List TA) (k:Nat):List EN:=(l.take k).map enO
def I20 (l:List TA) (k:Nat):St:=⟨[(4,iv .i64 (k:Nat)),(3,.c (.l (.o 2 k))),(1,.c (.l (.p 1 0)))],[(0,some ⟨rws l,.r 42 258 0⟩),(1,some ⟨[.o 0 l.length],.t 26⟩),(2,some ⟨ens (LE l k),.r 59 8 2⟩)],3,42,[2,1],(1)⟩
theorem LE_next {l:List TA} {k:Nat} (hk:k<l.length):ens (LE l k)++en (enO (at' l k))=ens (LE l (k+1)):=by
 have e:LE l (k+1)=LE l k++[enO (at' l k)]:=by
  unfold LE
  rw[List.take_succ_eq_append_getElem hk,List.map_append,List.map_cons,List.map_nil]
  congr 2
  have h:=at_len hk
  rw[List.getElem?_eq_getElem hk] at h
  exact congrArg enO (Option.some.inj h)
 rw[e]
 unfold ens
 rw[List.map_append,List.flatten_append]
 simp
theorem LE_len {l:List TA} {k:Nat} (hk:k≤l.length):(ens (LE l k)).length=8*k:=by
 rw[ens_len]
 unfold LE
 rw[List.length_map,List.length_take]
 omega
theorem LE_all (l:List TA):LE l l.length=l.map enO:=by
 unfold LE
 rw[List.take_length]
theorem build_eO (e:TA):[li e.X,li e.Y,ub (meanB e.t 0),ub (meanB e.t 1),ub (meanB e.t 2),ub (meanB e.t 3),li (sumI (blobT e.t)),.v (.string (blobT e.t))]=en (enO e):=rfl
theorem sum_wr (s:ByteArray):IntKind.i64.wrap ((Oct.M.sum s.data.toList:Nat):Int)=sumI s:=by
 have h:=sumI_bd s
 unfold sumI at h⊢
 exact okw _ (by omega) (by omega)
theorem apB59 {need:Nat} (k:need*49≤140737488355328):ApB Tryz.prog 59 need:=apB (bytes:=48) (by kernel_rfl) k
def cz_R20 (l:List TA) (k:Nat):Cz:={
 ct:=(fun f=>match f with
 |17=>some fun _ _S ar=>match ar with | [.c (.agg _)]=>some {v:=ag (meanL (at' l k).t),rd:=[],wr:=[],nw:=0}|_=>none
 |71=>some fun _ _S ar=>match ar with | [.c (.agg _)]=>some {v:=.c (.l (.v (.string (blobT (at' l k).t)))),rd:=[],wr:=[],nw:=0}|_=>none
 |72=>some fun _ _S ar=>match ar with | [.c (.l (.v (.string s)))]=>some {v:=iv .u32 (Oct.M.sum s.data.toList:Nat),rd:=[],wr:=[],nw:=0}|_=>none
 |_=>none)
 eq:=(fun t=>match t with
 |_=>none)
 raw:=[],sym:=[16,18,24,26,30,32,40],nf:=[(18,.c (.agg (tl (at' l k).t))),(26,ag [li (at' l k).X,li (at' l k).Y]),(32,.c (.agg (tl (at' l k).t))),(33,ag [ub (meanB (at' l k).t 0),ub (meanB (at' l k).t 1),ub (meanB (at' l k).t 2),ub (meanB (at' l k).t 3)]),(36,iv .i64 (sumI (blobT (at' l k).t))),(38,.c (.agg (en (enO (at' l k)))))],ap:=true,off:=[],on:=[],lp:=fun _=>none,un:=0}
set_option maxRecDepth 100000 in
theorem R20 (l:List TA) (k:Nat)  (K:Exit→St→Prop) (h:HB (decide ((Nat.cast k:Int)<(Nat.cast l.length:Int))) (InR ((Nat.cast k:Int)) l.length∧((Nat.cast k:Int)).toNat*258+2+256≤(rws l).length∧Le (ag (List.take 256 (List.drop (((Nat.cast k:Int)).toNat*258+2) (rws l)))) (ag (tl (at' l k).t))∧CallOKd Tryz.prog 71 [] [ag (tl (at' l k).t)] [] 3 (SV.c (Cp.l (Leaf.v (Value.string (blobT (at' l k).t))))) [] 0∧(InR ((Nat.cast k:Int)) l.length∧((Nat.cast k:Int)).toNat*258+0+2≤(rws l).length∧Le (ag (List.take 2 (List.drop (((Nat.cast k:Int)).toNat*258+0) (rws l)))) (ag [li (at' l k).X,li (at' l k).Y])∧InR ((Nat.cast k:Int)) l.length∧((Nat.cast k:Int)).toNat*258+2+256≤(rws l).length∧Le (ag (List.take 256 (List.drop (((Nat.cast k:Int)).toNat*258+2) (rws l)))) (ag (tl (at' l k).t))∧CallOKd Tryz.prog 17 [] [ag (tl (at' l k).t)] [] 3 (ag (meanL (at' l k).t)) [] 0∧Le (ag (meanL (at' l k).t)) (ag [Leaf.v (Value.int IntKind.u8 (Nat.cast ((meanB (at' l k).t 0).toNat):Int)),Leaf.v (Value.int IntKind.u8 (Nat.cast ((meanB (at' l k).t 1).toNat):Int)),Leaf.v (Value.int IntKind.u8 (Nat.cast ((meanB (at' l k).t 2).toNat):Int)),Leaf.v (Value.int IntKind.u8 (Nat.cast ((meanB (at' l k).t 3).toNat):Int))])∧CallOKd Tryz.prog 72 [] [SV.c (Cp.l (Leaf.v (Value.string (blobT (at' l k).t))))] [] 3 (iv IntKind.u32 (Nat.cast ((Oct.M.sum (blobT (at' l k).t).data.toList)):Int)) [] 0∧Le (iv IntKind.i64 (IntKind.i64.wrap (Nat.cast ((Oct.M.sum (blobT (at' l k).t).data.toList)):Int))) (iv IntKind.i64 (sumI (blobT (at' l k).t)))∧Le (ag [li (at' l k).X,li (at' l k).Y,Leaf.v (Value.int IntKind.u8 (Nat.cast ((meanB (at' l k).t 0).toNat):Int)),Leaf.v (Value.int IntKind.u8 (Nat.cast ((meanB (at' l k).t 1).toNat):Int)),Leaf.v (Value.int IntKind.u8 (Nat.cast ((meanB (at' l k).t 2).toNat):Int)),Leaf.v (Value.int IntKind.u8 (Nat.cast ((meanB (at' l k).t 3).toNat):Int)),li (sumI (blobT (at' l k).t)),Leaf.v (Value.string (blobT (at' l k).t))]) (ag (en (enO (at' l k))))∧(ens (LE l k)).length=k*8∧8=8∧IntKind.i64.wrap ((Nat.cast k:Int)+1)=(Nat.cast k:Int)+1∧RoundTo Tryz.prog ((getLoop 3 (Tryz.f20.body.getD Code.skip)).getD Code.skip) 3 (wkK 3 K) (St.mk [(1,SV.c (Cp.l (Leaf.p 1 0))),(3,SV.c (Cp.l (Leaf.o 2 (k+1)))),(4,iv IntKind.i64 ((Nat.cast k:Int)+1))] [(0,some (Blk.mk (rws l) (BT.r 42 258 0))),(1,some (Blk.mk [Leaf.o 0 l.length] (BT.t 26))),(2,some (Blk.mk (ens (LE l k)++splice [li 0,li 0,Leaf.v (Value.int IntKind.u8 0),Leaf.v (Value.int IntKind.u8 0),Leaf.v (Value.int IntKind.u8 0),Leaf.v (Value.int IntKind.u8 0),li 0,Leaf.v (Value.string (ByteArray.mk #[]))] 0 (en (enO (at' l k)))) (BT.r 59 8 2))),(3,some (Blk.mk (splice [li 0,li 0,Leaf.v (Value.int IntKind.u8 0),Leaf.v (Value.int IntKind.u8 0),Leaf.v (Value.int IntKind.u8 0),Leaf.v (Value.int IntKind.u8 0),li 0,Leaf.v (Value.string (ByteArray.mk #[]))] 0 (en (enO (at' l k)))) (BT.r 59 8 3))),(4,none)] 4 42 [2,3,2,1] 1))∧InR ((Nat.cast k:Int)) l.length∧((Nat.cast k:Int)).toNat*258+0+2≤(rws l).length∧Le (ag (List.take 2 (List.drop (((Nat.cast k:Int)).toNat*258+0) (rws l)))) (ag [li (at' l k).X,li (at' l k).Y])∧InR ((Nat.cast k:Int)) l.length∧((Nat.cast k:Int)).toNat*258+2+256≤(rws l).length∧Le (ag (List.take 256 (List.drop (((Nat.cast k:Int)).toNat*258+2) (rws l)))) (ag (tl (at' l k).t))∧CallOKd Tryz.prog 17 [] [ag (tl (at' l k).t)] [] 3 (ag (meanL (at' l k).t)) [] 0∧Le (ag (meanL (at' l k).t)) (ag [Leaf.v (Value.int IntKind.u8 (Nat.cast ((meanB (at' l k).t 0).toNat):Int)),Leaf.v (Value.int IntKind.u8 (Nat.cast ((meanB (at' l k).t 1).toNat):Int)),Leaf.v (Value.int IntKind.u8 (Nat.cast ((meanB (at' l k).t 2).toNat):Int)),Leaf.v (Value.int IntKind.u8 (Nat.cast ((meanB (at' l k).t 3).toNat):Int))])∧CallOKd Tryz.prog 72 [] [SV.c (Cp.l (Leaf.v (Value.string (blobT (at' l k).t))))] [] 3 (iv IntKind.u32 (Nat.cast ((Oct.M.sum (blobT (at' l k).t).data.toList)):Int)) [] 0∧Le (iv IntKind.i64 (IntKind.i64.wrap (Nat.cast ((Oct.M.sum (blobT (at' l k).t).data.toList)):Int))) (iv IntKind.i64 (sumI (blobT (at' l k).t)))∧Le (ag [li (at' l k).X,li (at' l k).Y,Leaf.v (Value.int IntKind.u8 (Nat.cast ((meanB (at' l k).t 0).toNat):Int)),Leaf.v (Value.int IntKind.u8 (Nat.cast ((meanB (at' l k).t 1).toNat):Int)),Leaf.v (Value.int IntKind.u8 (Nat.cast ((meanB (at' l k).t 2).toNat):Int)),Leaf.v (Value.int IntKind.u8 (Nat.cast ((meanB (at' l k).t 3).toNat):Int)),li (sumI (blobT (at' l k).t)),Leaf.v (Value.string (blobT (at' l k).t))]) (ag (en (enO (at' l k))))∧[(2,k+1,false)]=[(2,k+1,false)]∧ApB Tryz.prog 59 (k+1)∧(ens (LE l k)).length=k*8∧8=8∧IntKind.i64.wrap ((Nat.cast k:Int)+1)=(Nat.cast k:Int)+1∧RoundTo Tryz.prog ((getLoop 3 (Tryz.f20.body.getD Code.skip)).getD Code.skip) 3 (wkK 3 K) (St.mk [(1,SV.c (Cp.l (Leaf.p 1 0))),(3,SV.c (Cp.l (Leaf.o 4 (k+1)))),(4,iv IntKind.i64 ((Nat.cast k:Int)+1))] [(0,some (Blk.mk (rws l) (BT.r 42 258 0))),(1,some (Blk.mk [Leaf.o 0 l.length] (BT.t 26))),(2,some (Blk.mk (ens (LE l k)) (BT.r 59 8 2))),(3,some (Blk.mk (splice [li 0,li 0,Leaf.v (Value.int IntKind.u8 0),Leaf.v (Value.int IntKind.u8 0),Leaf.v (Value.int IntKind.u8 0),Leaf.v (Value.int IntKind.u8 0),li 0,Leaf.v (Value.string (ByteArray.mk #[]))] 0 (en (enO (at' l k)))) (BT.r 59 8 3))),(4,some (Blk.mk (ens (LE l k)++splice [li 0,li 0,Leaf.v (Value.int IntKind.u8 0),Leaf.v (Value.int IntKind.u8 0),Leaf.v (Value.int IntKind.u8 0),Leaf.v (Value.int IntKind.u8 0),li 0,Leaf.v (Value.string (ByteArray.mk #[]))] 0 (en (enO (at' l k)))) (BT.r 59 8 4)))] 5 42 [4,3,2,1] 1)) (wkK 3 K (Exit.exit 0) (St.mk [(1,SV.c (Cp.l (Leaf.p 1 0))),(3,SV.c (Cp.l (Leaf.o 2 k))),(4,iv IntKind.i64 (Nat.cast k:Int))] [(0,some (Blk.mk (rws l) (BT.r 42 258 0))),(1,some (Blk.mk [Leaf.o 0 l.length] (BT.t 26))),(2,some (Blk.mk (ens (LE l k)) (BT.r 59 8 2))),(3,none),(4,none)] 3 42 [2,1] 1))):WPL Tryz.prog ((getLoop 3 (Tryz.f20.body.getD .skip)).getD .skip) (I20 l k) (wkK 3 K):=
 wp_roundT [1,3,4] [0,1,2,3,4] (cx:=cz_R20 l k) rfl (of_eq (by kernel_rfl) h)
set_option maxRecDepth 100000 in
set_option maxHeartbeats 4000000 in
theorem L20 (l:List TA) (gl:Good l):∀(m k:Nat),l.length-k=m→k≤l.length→∀(K:Exit→St→Prop),K (.exit 0) (I20 l l.length)→WPL Tryz.prog ((getLoop 3 (Tryz.f20.body.getD .skip)).getD .skip) (I20 l k) (wkK 3 K)
 |0,k,hm,hk,K,hK=>by
  have e:k=l.length:=by omega
  subst e
  refine R20 l _ K (HB.mk (fun hne=>absurd (of_decide_eq_true hne) (by omega)) (fun he=>?_))
  exact wkK.to (I20 l _) (Nat.le_refl _) (by kernel_rfl) (wkE_cons (LeN.sl (by kernel_rfl) rfl) (wkE_cons (LeN.sl (by kernel_rfl) rfl) (wkE_cons (LeN.sl (by kernel_rfl) rfl) trivial))) (wkH_cons (BkN.plain (cs:=rws l) (b:=.r 42 258 0) (by kernel_rfl) (rfl) (plain_rws _) (by kernel_rfl)) (wkH_cons (BkN.blk (k:=⟨[.o 0 l.length],.t 26⟩) (by kernel_rfl) (rfl) (by kernel_rfl)) (wkH_cons (BkN.plain (cs:=ens (LE l l.length)) (b:=.r 59 8 2) (by kernel_rfl) (rfl) (plain_ens _) (by kernel_rfl)) trivial))) hK
 |m+1,k,hm,hk,K,hK=>by
  refine R20 l k K (HB.mk (fun hne=>?_) (fun he=>absurd (show ((k:Nat):Int)<(l.length:Nat) by omega) (of_decide_eq_false he)))
  have hlt:k<l.length:=by omega
  have h4:=gl.len
  have hbl:=blobT_le (at' l k).t
  repeat' (first|exact trivial|with_reducible apply And.intro|(with_reducible apply HB.mk)|with_reducible intro _)
  all_goals first
   |(with_reducible assumption)
   |(with_reducible exact Le.refl _)
   |(with_reducible rfl)
   |((with_reducible exact C17 _ _))
   |((with_reducible exact C71 _ _))
   |(((with_reducible refine C72 _ ?_ _)<;>omega))
   |(exact ⟨by omega,by omega⟩)
   |((rw[rws_len,tn];omega))
   |((rw[rws_len];omega))
   |((rw[LE_len (Nat.le_of_lt hlt)];omega))
   |((refine Le.of ?_;simp only[tn,Nat.zero_add,Nat.add_zero];rw[rws_pos hlt]))
   |((refine Le.of ?_;simp only[tn,Nat.zero_add,Nat.add_zero];rw[rws_tl hlt]))
   |(with_reducible exact Le.of (congrArg (fun l=>SV.c (.agg l)) (meanL_ub _)))
   |(with_reducible exact Le.int (sum_wr _))
   |(exact Le.of (congrArg (fun l=>SV.c (.agg l)) (build_eO _)))
   |((have:=blobT_le (at' l k).t;omega))
   |((with_reducible refine apB59 ?_;omega))
   |(omega)
   |((with_reducible refine RoundTo.toN 4 (I20 l (k+1)) ?_ ?_ ?_ ?_ ?_);exact Nat.le_refl _;kernel_rfl;exact (wkE_cons (LeN.sl (by kernel_rfl) rfl) (wkE_cons (LeN.sl (by kernel_rfl) rfl) (wkE_cons (LeN.sl (by kernel_rfl) rfl) trivial)));exact (wkH_cons (BkN.plain (cs:=rws l) (b:=.r 42 258 0) (by kernel_rfl) (rfl) (plain_rws _) (by kernel_rfl)) (wkH_cons (BkN.blk (k:=⟨[.o 0 l.length],.t 26⟩) (by kernel_rfl) (rfl) (by kernel_rfl)) (wkH_cons (BkN.plain (cs:=ens (LE l k)++en (enO (at' l k))) (b:=.r 59 8 2) (by kernel_rfl) (LE_next hlt) (plain_ens _) (by kernel_rfl)) trivial)));exact (L20 l gl m (k+1) (by omega) (by omega) K hK))
   |((with_reducible refine RoundTo.reN 5 [(2,some 4)] (I20 l (k+1)) ?_ ?_ ?_ ?_);kernel_rfl;exact (wkER_cons (LeR.of (by kernel_rfl)) (wkER_cons (LeR.of (by kernel_rfl)) (wkER_cons (LeR.of (by kernel_rfl)) trivial)));exact (wkHR_cons (j:=0) rfl (BkM.plain (cs:=rws l) (b:=.r 42 258 0) (by kernel_rfl) (rfl) (plain_rws _) (by kernel_rfl)) (wkHR_cons (j:=1) rfl (BkM.blk (k:=⟨[.o 0 l.length],.t 26⟩) (k'':=⟨[.o 0 l.length],.t 26⟩) (by kernel_rfl) (by kernel_rfl) rfl) (wkHR_cons (j:=4) rfl (BkM.plain (cs:=ens (LE l k)++en (enO (at' l k))) (b:=.r 59 8 4) (by kernel_rfl) (LE_next hlt) (plain_ens _) (by kernel_rfl)) trivial)));exact (L20 l gl m (k+1) (by omega) (by omega) K hK))
   |(exact okw _ (by omega) (by omega))
   |(exact Le.of rfl)
   |(exact BkR.of rfl)
   |(unfold SlOK;omega)
   |(unfold SlOK;decide)
   |(unfold inByte;decide)
   |(simp only[*,Bool.and_self,Bool.not_false,Bool.not_true];done)
   |(simp_all [wants];done)
theorem enters20:Enters Tryz.prog 20:=fun args w=>by go_simp
def cz_C20 (l:List TA):Cz:={
 ct:=(fun f=>match f with
 |72=>some fun _ _S ar=>match ar with | [.c (.l (.v (.string s)))]=>some {v:=iv .u32 (Oct.M.sum s.data.toList:Nat),rd:=[],wr:=[],nw:=0}|_=>none
 |_=>none)
 eq:=(fun t=>match t with
 |_=>none)
 raw:=[],sym:=[],nf:=[],ap:=true,off:=[],on:=[],lp:=fun r=>match r with|3=>some (fun _ K=>K (.exit 0) (I20 l l.length))|_=>none,un:=0,wh:=[26]}
set_option maxRecDepth 100000 in
set_option maxHeartbeats 400000 in
theorem C20 (l:List TA) (gl:Good l):CallOK Tryz.prog 20 [.c (.agg [.o 0 l.length])] [(0,⟨rws l,.r 42 258 0⟩)] 1 (.c (.l (.o 1 l.length))) [(1,⟨ens (l.map enO),.r 59 8 1⟩)] 1:=by
 refine call_ok (cx:=cz_C20 l) (nm:=[2]) rfl Tryz.func20 (body:=Tryz.f20.body.getD .skip) rfl enters20 (by unfold inck;simp only[List.all_cons,List.all_nil,blkLt_plain (plain_rws l) (show (BT.rn (rnId 1 0 []) (.r 42 258 0)).isSome=true from rfl),Bool.and_true,Bool.true_and];kernel_rfl) ?_
 apply of_eq (q:=(LoopOK Tryz.prog ((getLoop 3 (Tryz.f20.body.getD .skip)).getD .skip) (St.mk [(4,iv IntKind.i64 0),(3,SV.c (Cp.l (Leaf.v (Value.slice none 0 0)))),(2,SV.c (Cp.l (Leaf.v (Value.slice none 0 0)))),(1,SV.c (Cp.l (Leaf.p 1 0))),(0,ag [Leaf.o 0 l.length])] [(1,some (Blk.mk [Leaf.o 0 l.length] (BT.t 26))),(0,some (Blk.mk (rws l) (BT.r 42 258 0)))] 2 42 [1] 1) fun K=>K (Exit.exit 0) (I20 l l.length))∧Le (SV.c (Cp.l (Leaf.o 1 l.length))) (SV.c (Cp.l (Leaf.o 1 l.length)))∧BkR (rnId 1 0 [2]) (Blk.mk (ens (LE l l.length)) (BT.r 59 8 2)) (Blk.mk (ens (List.map enO l)) (BT.r 59 8 1))∧True) (by kernel_rfl)
 repeat' (first|exact trivial|with_reducible apply And.intro|(with_reducible apply HB.mk)|with_reducible intro _)
 all_goals first
  |(with_reducible assumption)
  |(with_reducible exact Le.refl _)
  |(with_reducible rfl)
  |(exact LoopOK.re [(0,some 0),(1,some 1),(2,none)] (I20 l 0) (by kernel_rfl) (wkER_cons (LeR.of (by kernel_rfl)) (wkER_cons (show LeR _ 3 _ (.c (.l (.o 2 0))) from LeR.nilS (by kernel_rfl) (show 2<3 by decide) rfl) (wkER_cons (LeR.of (by kernel_rfl)) trivial))) (wkHR_cons (j:=0) rfl (BkM.plain (cs:=rws l) (b:=.r 42 258 0) (by kernel_rfl) (rfl) (plain_rws _) (by kernel_rfl)) (wkHR_cons (j:=1) rfl (BkM.blk (k:=⟨[.o 0 l.length],.t 26⟩) (k'':=⟨[.o 0 l.length],.t 26⟩) (by kernel_rfl) (by kernel_rfl) rfl) (wkHR_nil rfl trivial))) (fun K hT=>L20 l gl _ 0 rfl (Nat.zero_le _) K hT))
  |(exact BkR.plain (by rw[LE_all]) (plain_ens _) (by kernel_rfl))
  |(exact okw _ (by omega) (by omega))
  |(exact Le.of rfl)
  |(exact BkR.of rfl)
  |(unfold SlOK;omega)
  |(unfold SlOK;decide)
  |(unfold inByte;decide)
  |(simp only[*,Bool.and_self,Bool.not_false,Bool.not_true];done)
  |(simp_all [wants];done)
theorem entries_any (l:List TA) (gl:Good l) (id n:Nat) (hi:id<n):CallOK Tryz.prog 20 [.c (.agg [.o id l.length])] [(id,⟨rws l,.r 42 258 id⟩)] n (.c (.l (.o n l.length))) [(n,⟨ens (l.map enO),.r 59 8 n⟩)] 1:=by
 have key:=CallOK.at1 (C20 l gl) id n hi
 simp only[List.map_cons,List.map_nil,Blk.ren,SV.ren,Cp.ren,Leaf.ren,BT.ren,ren_plain (plain_rws _),ren_plain (plain_ens _)] at key
 exact key
end Ab
end Go.Proofs.YtpdckpifhniioaaGreat
end
section
set_option linter.unusedVariables false
set_option linter.unusedSimpArgs false
namespace Go.Proofs.YtpdckpifhniioaaGreat
open Go.RowKit
namespace Ab
attribute [local irreducible] CallOKd
attribute [local irreducible] tl rws blobT
theorem hdW_next (L:List EN) (k:Nat):hdW L k++putB ((ea L k).X+8192) 2++putB ((ea L k).Y+8192) 2++quadE (ea L k)++varB (ea L k).blob.size++putB (ea L k).sum 4=hdW L (k+1):=by
 rw[hdW]
 unfold entW
 simp only[ByteArray.append_assoc]
theorem blW_le {L:List EN} (g:GoodE L):∀k,k≤L.length→(blW L k).size≤257*k
 |0,_=>Nat.le_refl _
 |k+1,h=>by
  have h1:=blW_le g k (by omega)
  have h2:=g.b k (by omega)
  rw[blW,ByteArray.size_append]
  omega
theorem quadI (e:EN):(⟨#[ofI ((e.a.toNat:Nat):Int),ofI ((e.b.toNat:Nat):Int),ofI ((e.c.toNat:Nat):Int),ofI ((e.d.toNat:Nat):Int)]⟩:ByteArray)=quadE e:=by
 rw[ofI_nat,ofI_nat,ofI_nat,ofI_nat];rfl
theorem quadE_sz (e:EN):(quadE e).size=4:=rfl
def I21 (L:List EN) (k:Nat):St:=⟨[(5,iv .i64 (k:Nat)),(3,.c (.l (.v (.string (hdW L k))))),(4,.c (.l (.v (.string (blW L k))))),(0,.c (.l (.o 0 L.length)))],[(0,some ⟨ens L,.r 59 8 0⟩)],1,62,[],(1)⟩
def cz_R21 (L:List EN) (k:Nat):Cz:={
 ct:=(fun f=>match f with
 |72=>some fun _ _S ar=>match ar with | [.c (.l (.v (.string s)))]=>some {v:=iv .u32 (Oct.M.sum s.data.toList:Nat),rd:=[],wr:=[],nw:=0}|_=>none
 |73=>some fun _ _S ar=>match ar with | [.c (.l (.v (.int _ k)))]=>some {v:=.c (.l (.v (.string ⟨(Oct.M.leb (Oct.u64 k)).toArray⟩))),rd:=[],wr:=[],nw:=0}|_=>none
 |74=>some fun _ _S ar=>match ar with | [.c (.l (.v (.int _ k))),.c (.l (.v (.int _ m)))]=>some {v:=.c (.l (.v (.string ⟨(Oct.M.be (Oct.sz m) (Oct.u64 k)).toArray⟩))),rd:=[],wr:=[],nw:=0}|_=>none
 |75=>some fun _ _S ar=>match ar with | [.c (.agg [.v (.int _ a),.v (.int _ b),.v (.int _ c),.v (.int _ e)])]=>some {v:=.c (.l (.v (.string ⟨#[ofI a,ofI b,ofI c,ofI e]⟩))),rd:=[],wr:=[],nw:=0}|_=>none
 |76=>some fun _ _S ar=>match ar with | [.c (.l (.v (.string s)))]=>some {v:=.c (.l (.v (.string ⟨(Oct.txt s).toArray⟩))),rd:=[],wr:=[],nw:=0}|_=>none
 |_=>none)
 eq:=(fun t=>match t with
 |_=>none)
 raw:=[],sym:=[18,19],nf:=[(19,.c (.agg (en (ea L k)))),(25,.c (.l (.v (.string (putB ((ea L k).X+8192) 2))))),(31,.c (.l (.v (.string (putB ((ea L k).Y+8192) 2))))),(35,.c (.l (.v (.string (quadE (ea L k)))))),(40,.c (.l (.v (.string (varB (ea L k).blob.size))))),(44,.c (.l (.v (.string (putB (ea L k).sum 4)))))],ap:=true,off:=[],on:=[],lp:=fun _=>none,un:=0,wh:=[59]}
set_option maxRecDepth 100000 in
theorem R21 (L:List EN) (k:Nat)  (K:Exit→St→Prop) (h:HB (decide ((Nat.cast k:Int)<(Nat.cast L.length:Int))) (InR ((Nat.cast k:Int)) L.length∧((Nat.cast k:Int)).toNat*8+8≤(ens L).length∧Le (ag (List.take 8 (List.drop (((Nat.cast k:Int)).toNat*8) (ens L)))) (ag [li (ea L k).X,li (ea L k).Y,Leaf.v (Value.int IntKind.u8 (Nat.cast ((ea L k).a.toNat):Int)),Leaf.v (Value.int IntKind.u8 (Nat.cast ((ea L k).b.toNat):Int)),Leaf.v (Value.int IntKind.u8 (Nat.cast ((ea L k).c.toNat):Int)),Leaf.v (Value.int IntKind.u8 (Nat.cast ((ea L k).d.toNat):Int)),li (ea L k).sum,Leaf.v (Value.string (ea L k).blob)])∧0=0∧8=8∧IntKind.i64.wrap ((ea L k).X+8192)=(ea L k).X+8192∧CallOKd Tryz.prog 74 [] [iv IntKind.i64 ((ea L k).X+8192),iv IntKind.i64 2] [] 2 (SV.c (Cp.l (Leaf.v (Value.string (ByteArray.mk (Oct.M.be (Oct.sz 2) (Oct.u64 ((ea L k).X+8192))).toArray))))) [] 0∧Le (SV.c (Cp.l (Leaf.v (Value.string (ByteArray.mk (Oct.M.be (Oct.sz 2) (Oct.u64 ((ea L k).X+8192))).toArray))))) (SV.c (Cp.l (Leaf.v (Value.string (putB ((ea L k).X+8192) 2)))))∧(Nat.cast (((hdW L k).size+(putB ((ea L k).X+8192) 2).size)):Int)≤IntKind.i64.max∧IntKind.i64.wrap ((ea L k).Y+8192)=(ea L k).Y+8192∧CallOKd Tryz.prog 74 [] [iv IntKind.i64 ((ea L k).Y+8192),iv IntKind.i64 2] [] 2 (SV.c (Cp.l (Leaf.v (Value.string (ByteArray.mk (Oct.M.be (Oct.sz 2) (Oct.u64 ((ea L k).Y+8192))).toArray))))) [] 0∧Le (SV.c (Cp.l (Leaf.v (Value.string (ByteArray.mk (Oct.M.be (Oct.sz 2) (Oct.u64 ((ea L k).Y+8192))).toArray))))) (SV.c (Cp.l (Leaf.v (Value.string (putB ((ea L k).Y+8192) 2)))))∧(Nat.cast (((hdW L k++putB ((ea L k).X+8192) 2).size+(putB ((ea L k).Y+8192) 2).size)):Int)≤IntKind.i64.max∧CallOKd Tryz.prog 75 [] [ag [Leaf.v (Value.int IntKind.u8 (Nat.cast ((ea L k).a.toNat):Int)),Leaf.v (Value.int IntKind.u8 (Nat.cast ((ea L k).b.toNat):Int)),Leaf.v (Value.int IntKind.u8 (Nat.cast ((ea L k).c.toNat):Int)),Leaf.v (Value.int IntKind.u8 (Nat.cast ((ea L k).d.toNat):Int))]] [] 2 (SV.c (Cp.l (Leaf.v (Value.string (ByteArray.mk #[ofI (Nat.cast ((ea L k).a.toNat):Int),ofI (Nat.cast ((ea L k).b.toNat):Int),ofI (Nat.cast ((ea L k).c.toNat):Int),ofI (Nat.cast ((ea L k).d.toNat):Int)]))))) [] 0∧Le (SV.c (Cp.l (Leaf.v (Value.string (ByteArray.mk #[ofI (Nat.cast ((ea L k).a.toNat):Int),ofI (Nat.cast ((ea L k).b.toNat):Int),ofI (Nat.cast ((ea L k).c.toNat):Int),ofI (Nat.cast ((ea L k).d.toNat):Int)]))))) (SV.c (Cp.l (Leaf.v (Value.string (quadE (ea L k))))))∧(Nat.cast (((hdW L k++putB ((ea L k).X+8192) 2++putB ((ea L k).Y+8192) 2).size+(quadE (ea L k)).size)):Int)≤IntKind.i64.max∧CallOKd Tryz.prog 73 [] [iv IntKind.i64 (Nat.cast ((ea L k).blob.size):Int)] [] 2 (SV.c (Cp.l (Leaf.v (Value.string (ByteArray.mk (Oct.M.leb (Oct.u64 (Nat.cast ((ea L k).blob.size):Int))).toArray))))) [] 0∧Le (SV.c (Cp.l (Leaf.v (Value.string (ByteArray.mk (Oct.M.leb (Oct.u64 (Nat.cast ((ea L k).blob.size):Int))).toArray))))) (SV.c (Cp.l (Leaf.v (Value.string (varB (Nat.cast ((ea L k).blob.size):Int))))))∧(Nat.cast (((hdW L k++putB ((ea L k).X+8192) 2++putB ((ea L k).Y+8192) 2++quadE (ea L k)).size+(varB (Nat.cast ((ea L k).blob.size):Int)).size)):Int)≤IntKind.i64.max∧CallOKd Tryz.prog 74 [] [iv IntKind.i64 (ea L k).sum,iv IntKind.i64 4] [] 2 (SV.c (Cp.l (Leaf.v (Value.string (ByteArray.mk (Oct.M.be (Oct.sz 4) (Oct.u64 (ea L k).sum)).toArray))))) [] 0∧Le (SV.c (Cp.l (Leaf.v (Value.string (ByteArray.mk (Oct.M.be (Oct.sz 4) (Oct.u64 (ea L k).sum)).toArray))))) (SV.c (Cp.l (Leaf.v (Value.string (putB (ea L k).sum 4)))))∧(Nat.cast (((hdW L k++putB ((ea L k).X+8192) 2++putB ((ea L k).Y+8192) 2++quadE (ea L k)++varB (Nat.cast ((ea L k).blob.size):Int)).size+(putB (ea L k).sum 4).size)):Int)≤IntKind.i64.max∧(Nat.cast (((blW L k).size+(ea L k).blob.size)):Int)≤IntKind.i64.max∧IntKind.i64.wrap ((Nat.cast k:Int)+1)=(Nat.cast k:Int)+1∧RoundTo Tryz.prog ((getLoop 4 (Tryz.f21.body.getD Code.skip)).getD Code.skip) 1 (wkK 1 K) (St.mk [(0,SV.c (Cp.l (Leaf.o 0 L.length))),(3,SV.c (Cp.l (Leaf.v (Value.string (hdW L k++putB ((ea L k).X+8192) 2++putB ((ea L k).Y+8192) 2++quadE (ea L k)++varB (Nat.cast ((ea L k).blob.size):Int)++putB (ea L k).sum 4))))),(4,SV.c (Cp.l (Leaf.v (Value.string (blW L k++(ea L k).blob))))),(5,iv IntKind.i64 ((Nat.cast k:Int)+1))] [(0,some (Blk.mk (ens L) (BT.r 59 8 0))),(1,some (Blk.mk [li (ea L k).X,li (ea L k).Y,Leaf.v (Value.int IntKind.u8 (Nat.cast ((ea L k).a.toNat):Int)),Leaf.v (Value.int IntKind.u8 (Nat.cast ((ea L k).b.toNat):Int)),Leaf.v (Value.int IntKind.u8 (Nat.cast ((ea L k).c.toNat):Int)),Leaf.v (Value.int IntKind.u8 (Nat.cast ((ea L k).d.toNat):Int)),li (ea L k).sum,Leaf.v (Value.string (ea L k).blob)] (BT.t 59)))] 2 62 [1,1] 1)) (wkK 1 K (Exit.exit 0) (St.mk [(0,SV.c (Cp.l (Leaf.o 0 L.length))),(3,SV.c (Cp.l (Leaf.v (Value.string (hdW L k))))),(4,SV.c (Cp.l (Leaf.v (Value.string (blW L k))))),(5,iv IntKind.i64 (Nat.cast k:Int))] [(0,some (Blk.mk (ens L) (BT.r 59 8 0))),(1,none)] 1 62 [] 1))):WPL Tryz.prog ((getLoop 4 (Tryz.f21.body.getD .skip)).getD .skip) (I21 L k) (wkK 1 K):=
 wp_roundT [0,3,4,5] [0,1] (cx:=cz_R21 L k) rfl (of_eq (by kernel_rfl) h)
set_option maxRecDepth 100000 in
set_option maxHeartbeats 4000000 in
theorem L21 (L:List EN) (g:GoodE L):∀(m k:Nat),L.length-k=m→k≤L.length→∀(K:Exit→St→Prop),K (.exit 0) (I21 L L.length)→WPL Tryz.prog ((getLoop 4 (Tryz.f21.body.getD .skip)).getD .skip) (I21 L k) (wkK 1 K)
 |0,k,hm,hk,K,hK=>by
  have e:k=L.length:=by omega
  subst e
  refine R21 L _ K (HB.mk (fun hne=>absurd (of_decide_eq_true hne) (by omega)) (fun he=>?_))
  exact wkK.to (I21 L _) (Nat.le_refl _) (by kernel_rfl) (wkE_cons (LeN.sl (by kernel_rfl) rfl) (wkE_cons (LeN.sl (by kernel_rfl) rfl) (wkE_cons (LeN.sl (by kernel_rfl) rfl) (wkE_cons (LeN.sl (by kernel_rfl) rfl) trivial)))) (wkH_cons (BkN.plain (cs:=ens L) (b:=.r 59 8 0) (by kernel_rfl) (rfl) (plain_ens _) (by kernel_rfl)) trivial) hK
 |m+1,k,hm,hk,K,hK=>by
  refine R21 L k K (HB.mk (fun hne=>?_) (fun he=>absurd (show ((k:Nat):Int)<(L.length:Nat) by omega) (of_decide_eq_false he)))
  have hlt:k<L.length:=by omega
  have h4:=g.len
  have hX:=g.x k hlt
  have hY:=g.y k hlt
  have hb:=g.b k hlt
  have hs:=g.s k hlt
  have hh:=hdW_le L k
  have hbl:=blW_le g k (by omega)
  have hv:=varB_le (ea L k).blob.size
  repeat' (first|exact trivial|with_reducible apply And.intro|(with_reducible apply HB.mk)|with_reducible intro _)
  all_goals first
   |(with_reducible assumption)
   |(with_reducible exact Le.refl _)
   |(with_reducible rfl)
   |((with_reducible exact C73 _ _))
   |((with_reducible exact C74 _ _ _))
   |((with_reducible exact C75I _ _ _ _ _))
   |(exact ⟨by omega,by omega⟩)
   |((rw[ens_len];omega))
   |((refine Le.of ?_;simp only[tn,Nat.zero_add,Nat.add_zero];rw[ens_at hlt];rfl))
   |((exact okw _ (by omega) (by omega)))
   |((refine Le.of ?_;rw[quadI];done))
   |((rw[IntKind.max_i64];(try simp only[ByteArray.size_append,putB_sz,sz2,sz4,quadE_sz]);omega))
   |(omega)
   |((with_reducible refine RoundTo.toN 2 (I21 L (k+1)) ?_ ?_ ?_ ?_ ?_);exact Nat.le_refl _;kernel_rfl;exact (wkE_cons (LeN.sl (by kernel_rfl) rfl) (wkE_cons (by rw[←hdW_next];exact LeN.sl (by kernel_rfl) rfl) (wkE_cons (by rw[blW];exact LeN.sl (by kernel_rfl) rfl) (wkE_cons (LeN.sl (by kernel_rfl) rfl) trivial))));exact (wkH_cons (BkN.plain (cs:=ens L) (b:=.r 59 8 0) (by kernel_rfl) (rfl) (plain_ens _) (by kernel_rfl)) trivial);exact (L21 L g m (k+1) (by omega) (by omega) K hK))
   |(exact okw _ (by omega) (by omega))
   |(exact Le.of rfl)
   |(exact BkR.of rfl)
   |(unfold SlOK;omega)
   |(unfold SlOK;decide)
   |(unfold inByte;decide)
   |(simp only[*,Bool.and_self,Bool.not_false,Bool.not_true];done)
   |(simp_all [wants];done)
theorem enters21:Enters Tryz.prog 21:=fun args w=>by go_simp
def cz_C21 (L:List EN):Cz:={
 ct:=(fun f=>match f with
 |72=>some fun _ _S ar=>match ar with | [.c (.l (.v (.string s)))]=>some {v:=iv .u32 (Oct.M.sum s.data.toList:Nat),rd:=[],wr:=[],nw:=0}|_=>none
 |73=>some fun _ _S ar=>match ar with | [.c (.l (.v (.int _ k)))]=>some {v:=.c (.l (.v (.string ⟨(Oct.M.leb (Oct.u64 k)).toArray⟩))),rd:=[],wr:=[],nw:=0}|_=>none
 |74=>some fun _ _S ar=>match ar with | [.c (.l (.v (.int _ k))),.c (.l (.v (.int _ m)))]=>some {v:=.c (.l (.v (.string ⟨(Oct.M.be (Oct.sz m) (Oct.u64 k)).toArray⟩))),rd:=[],wr:=[],nw:=0}|_=>none
 |75=>some fun _ _S ar=>match ar with | [.c (.agg [.v (.int _ a),.v (.int _ b),.v (.int _ c),.v (.int _ e)])]=>some {v:=.c (.l (.v (.string ⟨#[ofI a,ofI b,ofI c,ofI e]⟩))),rd:=[],wr:=[],nw:=0}|_=>none
 |76=>some fun _ _S ar=>match ar with | [.c (.l (.v (.string s)))]=>some {v:=.c (.l (.v (.string ⟨(Oct.txt s).toArray⟩))),rd:=[],wr:=[],nw:=0}|_=>none
 |_=>none)
 eq:=(fun t=>match t with
 |_=>none)
 raw:=[],sym:=[],nf:=[(9,.c (.l (.v (.string (hdW L 0))))),(51,.c (.l (.v (.string ⟨#[71,1]⟩)))),(53,.c (.l (.v (.string (txtB (hdW L L.length)))))),(57,iv .i64 (sumI (hdW L L.length))),(58,.c (.l (.v (.string (putB (sumI (hdW L L.length)) 4))))),(61,.c (.l (.v (.string (writeB L)))))],ap:=true,off:=[],on:=[],lp:=fun r=>match r with|4=>some (fun _ K=>K (.exit 0) (I21 L L.length))|_=>none,un:=0}
set_option maxRecDepth 100000 in
set_option maxHeartbeats 400000 in
theorem C21 (L:List EN) (g:GoodE L):CallOK Tryz.prog 21 [.c (.l (.o 0 L.length))] [(0,⟨ens L,.r 59 8 0⟩)] 1 (.c (.l (.v (.string (writeB L))))) [] 0:=by
 have h4:=g.len
 have hh:=hdW_le L L.length
 have hbl:=blW_le g L.length (Nat.le_refl _)
 have ht:=txtB_le (hdW L L.length) (by omega)
 have e71:(⟨#[71,1]⟩:ByteArray).size=2:=rfl
 refine call_ok (cx:=cz_C21 L) (nm:=[]) rfl Tryz.func21 (body:=Tryz.f21.body.getD .skip) rfl enters21 (by unfold inck;simp only[List.all_cons,List.all_nil,blkLt_plain (plain_ens L) (show (BT.rn (rnId 1 0 []) (.r 59 8 0)).isSome=true from rfl),Bool.and_true,Bool.true_and];kernel_rfl) ?_
 apply of_eq (q:=CallOKd Tryz.prog 73 [] [iv IntKind.i64 (Nat.cast L.length:Int)] [] 1 (SV.c (Cp.l (Leaf.v (Value.string (ByteArray.mk (Oct.M.leb (Oct.u64 (Nat.cast L.length:Int))).toArray))))) [] 0∧Le (SV.c (Cp.l (Leaf.v (Value.string (ByteArray.mk (Oct.M.leb (Oct.u64 (Nat.cast L.length:Int))).toArray))))) (SV.c (Cp.l (Leaf.v (Value.string (hdW L 0)))))∧(LoopOK Tryz.prog ((getLoop 4 (Tryz.f21.body.getD .skip)).getD .skip) (St.mk [(5,iv IntKind.i64 0),(4,SV.c (Cp.l (Leaf.v (Value.string (ByteArray.mk #[]))))),(3,SV.c (Cp.l (Leaf.v (Value.string (hdW L 0))))),(9,SV.c (Cp.l (Leaf.v (Value.string (hdW L 0))))),(8,iv IntKind.i64 (Nat.cast L.length:Int)),(7,SV.c (Cp.l (Leaf.o 0 L.length))),(2,SV.c (Cp.l (Leaf.v (Value.string (ByteArray.mk #[]))))),(0,SV.c (Cp.l (Leaf.o 0 L.length)))] [(0,some (Blk.mk (ens L) (BT.r 59 8 0)))] 1 62 [] 1) fun K=>K (Exit.exit 0) (I21 L L.length))∧inByte 71∧inByte 1∧Le (SV.c (Cp.l (Leaf.v (Value.string (strOf [71,1]))))) (SV.c (Cp.l (Leaf.v (Value.string (ByteArray.mk #[71,1])))))∧CallOKd Tryz.prog 76 [] [SV.c (Cp.l (Leaf.v (Value.string (hdW L L.length))))] [] 2 (SV.c (Cp.l (Leaf.v (Value.string (ByteArray.mk (Oct.txt (hdW L L.length)).toArray))))) [] 0∧Le (SV.c (Cp.l (Leaf.v (Value.string (ByteArray.mk (Oct.txt (hdW L L.length)).toArray))))) (SV.c (Cp.l (Leaf.v (Value.string (txtB (hdW L L.length))))))∧(Nat.cast (((ByteArray.mk #[71,1]).size+(txtB (hdW L L.length)).size)):Int)≤IntKind.i64.max∧CallOKd Tryz.prog 72 [] [SV.c (Cp.l (Leaf.v (Value.string (hdW L L.length))))] [] 2 (iv IntKind.u32 (Nat.cast ((Oct.M.sum (hdW L L.length).data.toList)):Int)) [] 0∧Le (iv IntKind.i64 (IntKind.i64.wrap (Nat.cast ((Oct.M.sum (hdW L L.length).data.toList)):Int))) (iv IntKind.i64 (sumI (hdW L L.length)))∧CallOKd Tryz.prog 74 [] [iv IntKind.i64 (sumI (hdW L L.length)),iv IntKind.i64 4] [] 2 (SV.c (Cp.l (Leaf.v (Value.string (ByteArray.mk (Oct.M.be (Oct.sz 4) (Oct.u64 (sumI (hdW L L.length)))).toArray))))) [] 0∧Le (SV.c (Cp.l (Leaf.v (Value.string (ByteArray.mk (Oct.M.be (Oct.sz 4) (Oct.u64 (sumI (hdW L L.length)))).toArray))))) (SV.c (Cp.l (Leaf.v (Value.string (putB (sumI (hdW L L.length)) 4)))))∧(Nat.cast (((ByteArray.mk #[71,1]++txtB (hdW L L.length)).size+(putB (sumI (hdW L L.length)) 4).size)):Int)≤IntKind.i64.max∧(Nat.cast (((ByteArray.mk #[71,1]++txtB (hdW L L.length)++putB (sumI (hdW L L.length)) 4).size+(blW L L.length).size)):Int)≤IntKind.i64.max∧Le (SV.c (Cp.l (Leaf.v (Value.string (ByteArray.mk #[71,1]++txtB (hdW L L.length)++putB (sumI (hdW L L.length)) 4++blW L L.length))))) (SV.c (Cp.l (Leaf.v (Value.string (writeB L)))))∧Le (SV.c (Cp.l (Leaf.v (Value.string (writeB L))))) (SV.c (Cp.l (Leaf.v (Value.string (writeB L)))))∧True) (by kernel_rfl)
 repeat' (first|exact trivial|with_reducible apply And.intro|(with_reducible apply HB.mk)|with_reducible intro _)
 all_goals first
  |(with_reducible assumption)
  |(with_reducible exact Le.refl _)
  |(with_reducible rfl)
  |(((with_reducible refine C72 _ ?_ _)<;>omega))
  |((with_reducible exact C73 _ _))
  |((with_reducible exact C74 _ _ _))
  |(((with_reducible refine C76 _ ?_ _)<;>omega))
  |(exact LoopOK.mk (I21 L 0) rfl (by kernel_rfl) (wkE_cons (LeN.sl (by kernel_rfl) rfl) (wkE_cons (LeN.sl (by kernel_rfl) rfl) (wkE_cons (LeN.sl (by kernel_rfl) rfl) (wkE_cons (LeN.sl (by kernel_rfl) rfl) trivial)))) (wkH_cons (BkN.plain (cs:=ens L) (b:=.r 59 8 0) (by kernel_rfl) (rfl) (plain_ens _) (by kernel_rfl)) trivial) (fun K hT=>L21 L g _ 0 rfl (by first|decide|omega) K hT))
  |(exact inb _)
  |(with_reducible exact Le.int (sum_wr _))
  |((unfold inByte;decide))
  |(exact Le.of (congrArg (fun s=>SV.c (.l (.v (.string s)))) (strOf_bytes [71,1])))
  |((rw[IntKind.max_i64];(try simp only[ByteArray.size_append,putB_sz,sz2,sz4,e71]);omega))
  |(omega)
  |(exact okw _ (by omega) (by omega))
  |(exact Le.of rfl)
  |(exact BkR.of rfl)
  |(unfold SlOK;omega)
  |(unfold SlOK;decide)
  |(unfold inByte;decide)
  |(simp only[*,Bool.and_self,Bool.not_false,Bool.not_true];done)
  |(simp_all [wants];done)
theorem refwrite_any (L:List EN) (g:GoodE L) (id n:Nat) (hi:id<n):CallOK Tryz.prog 21 [.c (.l (.o id L.length))] [(id,⟨ens L,.r 59 8 id⟩)] n (.c (.l (.v (.string (writeB L))))) [] 0:=by
 have key:=CallOK.at1 (C21 L g) id n hi
 simp only[List.map_cons,List.map_nil,Blk.ren,SV.ren,Cp.ren,Leaf.ren,BT.ren,ren_plain (plain_ens _)] at key
 exact key
end Ab
end Go.Proofs.YtpdckpifhniioaaGreat
end
