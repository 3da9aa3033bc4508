/- Part 18 of what CodecLocal rests on. -/
import Derived.Test.YtpdckpifhniioaaGreatPq
section
set_option linter.unusedVariables false
set_option linter.unusedSimpArgs false
namespace Go.Proofs.YtpdckpifhniioaaGreat
open Go.RowKit
namespace Ab
attribute [local irreducible] CallOKd
def parseB (s:ByteArray):Bool:=bif hdBad s then false else bif (List.range (nN s)).all (okE s) then !decide ((s.size:Int)-((posn s (nN s):Nat):Int)>0) else false
theorem parse_no {s:ByteArray} {j:Nat} (hj:j<nN s) (h:okE s j=false):parseB s=false:=by
 unfold parseB
 have:(List.range (nN s)).all (okE s)=false:=by
  rw[List.all_eq_false]
  exact ⟨j,List.mem_range.2 hj,by rw[h];decide⟩
 rw[this]
 cases hdBad s<;>rfl
theorem parse_hd {s:ByteArray} (h:hdBad s=true):parseB s=false:=by unfold parseB;rw[h];rfl
theorem parse_val {s:ByteArray} (h1:hdBad s=false) (h2:∀j,j<nN s→okE s j=true):parseB s = !decide ((s.size:Int)-((posn s (nN s):Nat):Int)>0):=by
 unfold parseB
 have:(List.range (nN s)).all (okE s)=true:=by
  rw[List.all_eq_true]
  exact fun j hj=>h2 j (List.mem_range.1 hj)
 rw[h1,this];rfl
theorem parse_f {s:ByteArray} (h:parseB s=true):hdBad s=false∧(∀j,j<nN s→okE s j=true)∧posn s (nN s)=s.size:=by
 have h1:hdBad s=false:=by
  cases e:hdBad s with
  |false=>rfl
  |true=>rw[parse_hd e] at h;cases h
 have h2:∀j,j<nN s→okE s j=true:=fun j hj=>by
  cases e:okE s j with
  |true=>rfl
  |false=>rw[parse_no hj e] at h;cases h
 refine ⟨h1,h2,?_⟩
 rw[parse_val h1 h2] at h
 have h3:=posn_le s (nN s)
 have h4:¬((s.size:Int)-((posn s (nN s):Nat):Int)>0):=by simpa using h
 omega
theorem LeR.nilS {l:List (Nat×Option Nat)} {S:St} {n t i:Nat} (h:S.sl t=.c (.l (.v (.slice none 0 0)))) (hi:i<n) (hs:sg l i=none):LeR l n (S.sl t) (.c (.l (.o i 0))):=by
 rw[h];exact fun β y hd=>LfR.nil hi hs β y hd
theorem parse_l {s:ByteArray} (h1:hdBad s=false) (h2:∀j,j<nN s→okE s j=true) (h3:decide ((s.size:Int)-((posn s (nN s):Nat):Int)>0)=true):parseB s=false:=by rw[parse_val h1 h2,h3];rfl
theorem parse_y {s:ByteArray} (h1:hdBad s=false) (h2:∀j,j<nN s→okE s j=true) (h3:decide ((s.size:Int)-((posn s (nN s):Nat):Int)>0)=false):parseB s=true:=by rw[parse_val h1 h2,h3];rfl
theorem rd0 (s:ByteArray) (hs:s.size≤1000000000000000000) (id n:Nat):CallOK Tryz.prog 125 [.c (.l (.p id 0))] [(id,⟨[.v (.string s),.v (.int .i64 0),.v (.bool false)],.t 174⟩)] n (iv .i64 (nP s)) [(id,⟨[.v (.string s),.v (.int .i64 (posn s 0:Nat)),.v (.bool (Oct.varRes s 0 false).2.2)],.t 174⟩)] 0:=C125 id s (0:Nat) false hs (by decide) (Int.natCast_nonneg _) n
theorem rd7 (s:ByteArray) (k:Nat) (hs:s.size≤1000000000000000000) (f:Bool) (id n:Nat):CallOK Tryz.prog 63 [.c (.l (.p id 0))] [(id,⟨[.v (.string s),.v (.int .i64 (posn s k:Nat)),.v (.bool f)],.t 174⟩)] n (iv .i64 (s.size-(posn s k:Nat))) [] 0:=C63 id s (posn s k:Nat) f hs (Int.natCast_nonneg _) (Int.ofNat_le.2 (posn_le s k)) n
theorem rd8 (s:ByteArray) (p:Nat) (f:Bool) (id n:Nat):CallOK Tryz.prog 61 [.c (.l (.p id 0))] [(id,⟨[.v (.string s),.v (.int .i64 (p:Nat)),.v (.bool f)],.t 174⟩)] n (bv f) [] 0:=C61 id s (p:Nat) f (Int.natCast_nonneg _) n
theorem enters62:Enters Tryz.prog 62:=fun args w=>by go_simp
def cz_C62e (s:ByteArray):Cz:={
 ct:=(fun f=>match f with
 |58=>some fun _ _S ar=>match ar with | [.c (.l (.v (.string s)))]=>some {v:=.c (.l (.p _S.n 0)),rd:=[],wr:=[(_S.n,⟨[.v (.string s),.v (.int .i64 0),.v (.bool false)],.t 174⟩)],nw:=1}|_=>none
 |61=>some fun _ _S ar=>match ar with | [.c (.l (.p i _))]=>some {v:=bv (Oct.varRes s 0 false).2.2,rd:=[i],wr:=[],nw:=0}|_=>none
 |63=>some fun _ _S ar=>match ar with | [.c (.l (.p i _))]=>some {v:=iv .i64 (s.size-(posn s (nN s):Nat)),rd:=[i],wr:=[],nw:=0}|_=>none
 |125=>some fun _ _S ar=>match ar with | [.c (.l (.p i _))]=>some {v:=iv .i64 (nP s),rd:=[i],wr:=[(i,⟨[.v (.string s),.v (.int .i64 (posn s 0:Nat)),.v (.bool (Oct.varRes s 0 false).2.2)],.t 174⟩)],nw:=0}|_=>none
 |_=>none)
 eq:=(fun t=>match t with
 |_=>none)
 raw:=[],sym:=[],nf:=[(26,bv (hdBad s))],ap:=true,off:=[],on:=[],lp:=fun r=>match r with|6=>some (fun _ K=>((∀j,j<(nN s)→okE s j=true)→K (.exit 0) (I62 s (nN s)))∧(∀j,j<(nN s)→okE s j=false→K .ret (Q62)))|_=>none,un:=0}
def cz_C62k (s:ByteArray):Cz:={
 ct:=(fun f=>match f with
 |58=>some fun _ _S ar=>match ar with | [.c (.l (.v (.string s)))]=>some {v:=.c (.l (.p _S.n 0)),rd:=[],wr:=[(_S.n,⟨[.v (.string s),.v (.int .i64 0),.v (.bool false)],.t 174⟩)],nw:=1}|_=>none
 |61=>some fun _ _S ar=>match ar with | [.c (.l (.p i _))]=>some {v:=bv (Oct.varRes s 0 false).2.2,rd:=[i],wr:=[],nw:=0}|_=>none
 |63=>some fun _ _S ar=>match ar with | [.c (.l (.p i _))]=>some {v:=iv .i64 (s.size-(posn s (nN s):Nat)),rd:=[i],wr:=[],nw:=0}|_=>none
 |125=>some fun _ _S ar=>match ar with | [.c (.l (.p i _))]=>some {v:=iv .i64 (nP s),rd:=[i],wr:=[(i,⟨[.v (.string s),.v (.int .i64 (posn s 0:Nat)),.v (.bool (Oct.varRes s 0 false).2.2)],.t 174⟩)],nw:=0}|_=>none
 |_=>none)
 eq:=(fun t=>match t with
 |_=>none)
 raw:=[],sym:=[],nf:=[(26,bv (hdBad s))],ap:=true,off:=[],on:=[],lp:=fun r=>match r with|6=>some (fun _ K=>((∀j,j<(nN s)→okE s j=true)→K (.exit 0) (I62 s (nN s)))∧(∀j,j<(nN s)→okE s j=false→K .ret (Q62)))|_=>none,un:=0}
set_option maxRecDepth 100000 in
set_option maxHeartbeats 400000 in
theorem C62k (s:ByteArray) (hs:s.size≤1000000000000000000) (hb:parseB s=true):CallOK Tryz.prog 62 [.c (.l (.v (.string s)))] [] 0 (.tup [.l (.o 0 (nN s)),.l (.o 1 (nN s)),.l (li 0)]) [(0,⟨ens (ents s (nN s)),.r 123 8 0⟩),(1,⟨szs s (nN s),.r 3 1 1⟩)] 2:=by
 refine call_ok (cx:=cz_C62k s) (nm:=[1,2]) rfl Tryz.func62 (body:=Tryz.f62.body.getD .skip) rfl enters62 (by kernel_rfl) ?_
 apply of_eq (q:=CallOKd Tryz.prog 58 [] [SV.c (Cp.l (Leaf.v (Value.string s)))] [] 0 (SV.c (Cp.l (Leaf.p 0 0))) [(0,Blk.mk [Leaf.v (Value.string s),li 0,lb false] (BT.t 174))] 1∧CallOKd Tryz.prog 125 [] [SV.c (Cp.l (Leaf.p 0 0))] [(0,Blk.mk [Leaf.v (Value.string s),li 0,lb false] (BT.t 174))] 1 (iv IntKind.i64 (nP s)) [(0,Blk.mk [Leaf.v (Value.string s),li (Nat.cast ((posn s 0)):Int),lb (Oct.varRes s 0 false).snd.snd] (BT.t 174))] 0∧CallOKd Tryz.prog 61 [] [SV.c (Cp.l (Leaf.p 0 0))] [(0,Blk.mk [Leaf.v (Value.string s),li (Nat.cast ((posn s 0)):Int),lb (Oct.varRes s 0 false).snd.snd] (BT.t 174))] 1 (bv (Oct.varRes s 0 false).snd.snd) [] 0∧((!(Oct.varRes s 0 false).snd.snd)=true→(!(Oct.varRes s 0 false).snd.snd)=true∧True)∧((Oct.varRes s 0 false).snd.snd=false→(!(Oct.varRes s 0 false).snd.snd)=true)∧((!bif (Oct.varRes s 0 false).snd.snd then true else decide (nP s<0))=true→(!bif (Oct.varRes s 0 false).snd.snd then true else decide (nP s<0))=true∧True)∧((bif (Oct.varRes s 0 false).snd.snd then true else decide (nP s<0))=false→(!bif (Oct.varRes s 0 false).snd.snd then true else decide (nP s<0))=true)∧Le (bv (bif bif (Oct.varRes s 0 false).snd.snd then true else decide (nP s<0) then true else decide (nP s>1024))) (bv (hdBad s))∧HB (hdBad s) (Le (SV.tup [Cp.l (Leaf.v (Value.slice none 0 0)),Cp.l (Leaf.v (Value.slice none 0 0)),Cp.l (li 11)]) (SV.tup [Cp.l (Leaf.o 0 (nN s)),Cp.l (Leaf.o 1 (nN s)),Cp.l (li 0)])∧False) ((LoopOK Tryz.prog ((getLoop 6 (Tryz.f62.body.getD .skip)).getD .skip) (St.mk [(28,iv IntKind.i64 0),(27,iv IntKind.i64 (nP s)),(26,bv (hdBad s)),(25,SV.g (!bif (Oct.varRes s 0 false).snd.snd then true else decide (nP s<0)) (Cp.l (lb (decide (nP s>1024))))),(24,SV.g (!bif (Oct.varRes s 0 false).snd.snd then true else decide (nP s<0)) (Cp.l (li (nP s)))),(23,bv (bif (Oct.varRes s 0 false).snd.snd then true else decide (nP s<0))),(22,bv (bif (Oct.varRes s 0 false).snd.snd then true else decide (nP s<0))),(21,SV.g (!(Oct.varRes s 0 false).snd.snd) (Cp.l (lb (decide (nP s<0))))),(20,SV.g (!(Oct.varRes s 0 false).snd.snd) (Cp.l (li (nP s)))),(19,bv (Oct.varRes s 0 false).snd.snd),(18,bv (Oct.varRes s 0 false).snd.snd),(17,SV.c (Cp.l (Leaf.p 0 0))),(6,iv IntKind.i64 (nP s)),(16,iv IntKind.i64 (nP s)),(15,SV.c (Cp.l (Leaf.p 0 0))),(5,SV.c (Cp.l (Leaf.p 0 0))),(14,SV.c (Cp.l (Leaf.p 0 0))),(13,SV.c (Cp.l (Leaf.v (Value.string s)))),(4,iv IntKind.i64 0),(3,SV.c (Cp.l (Leaf.v (Value.slice none 0 0)))),(2,SV.c (Cp.l (Leaf.v (Value.slice none 0 0)))),(0,SV.c (Cp.l (Leaf.v (Value.string s))))] [(0,some (Blk.mk [Leaf.v (Value.string s),li (Nat.cast ((posn s 0)):Int),lb (Oct.varRes s 0 false).snd.snd] (BT.t 174))),(0,some (Blk.mk [Leaf.v (Value.string s),li 0,lb false] (BT.t 174)))] 1 96 [0,0] 0) fun K=>((∀(j:Nat),j<nN s→okE s j=true)→K (Exit.exit 0) (I62 s (nN s)))∧∀(j:Nat),j<nN s→okE s j=false→K Exit.ret Q62)∧((∀(j:Nat),j<nN s→okE s j=true)→CallOKd Tryz.prog 63 [] [SV.c (Cp.l (Leaf.p 0 0))] [(0,Blk.mk [Leaf.v (Value.string s),li (Nat.cast ((posn s (nN s))):Int),lb false] (BT.t 174))] 3 (iv IntKind.i64 ((Nat.cast s.size:Int)-(Nat.cast ((posn s (nN s))):Int))) [] 0∧HB (decide ((Nat.cast s.size:Int)-(Nat.cast ((posn s (nN s))):Int)>0)) (Le (SV.tup [Cp.l (Leaf.v (Value.slice none 0 0)),Cp.l (Leaf.v (Value.slice none 0 0)),Cp.l (li 11)]) (SV.tup [Cp.l (Leaf.o 0 (nN s)),Cp.l (Leaf.o 1 (nN s)),Cp.l (li 0)])∧BkR (rnId 0 0 [1,2]) (Blk.mk (ens (ents s (nN s))) (BT.r 123 8 1)) (Blk.mk (ens (ents s (nN s))) (BT.r 123 8 0))∧BkR (rnId 0 0 [1,2]) (Blk.mk (szs s (nN s)) (BT.r 3 1 2)) (Blk.mk (szs s (nN s)) (BT.r 3 1 1))∧True) (Le (SV.tup [Cp.l (Leaf.o 0 (nN s)),Cp.l (Leaf.o 1 (nN s)),Cp.l (li 0)]) (SV.tup [Cp.l (Leaf.o 0 (nN s)),Cp.l (Leaf.o 1 (nN s)),Cp.l (li 0)])∧BkR (rnId 0 0 [1,2]) (Blk.mk (ens (ents s (nN s))) (BT.r 123 8 1)) (Blk.mk (ens (ents s (nN s))) (BT.r 123 8 0))∧BkR (rnId 0 0 [1,2]) (Blk.mk (szs s (nN s)) (BT.r 3 1 2)) (Blk.mk (szs s (nN s)) (BT.r 3 1 1))∧True))∧∀(j:Nat),j<nN s→okE s j=false→Le (SV.tup [Cp.l (Leaf.v (Value.slice none 0 0)),Cp.l (Leaf.v (Value.slice none 0 0)),Cp.l (li 11)]) (SV.tup [Cp.l (Leaf.o 0 (nN s)),Cp.l (Leaf.o 1 (nN s)),Cp.l (li 0)])∧False)) (by kernel_rfl)
 repeat' (first|exact trivial|with_reducible apply And.intro|(with_reducible apply HB.mk)|with_reducible intro _)
 all_goals first
  |(assumption)
  |(with_reducible exact Le.refl _)
  |((with_reducible exact C58 _ _))
  |((with_reducible exact rd8 _ _ _ _ _))
  |((with_reducible exact rd7 _ _ hs _ _ _))
  |((with_reducible exact rd0 _ hs _ _))
  |(exact LoopOK.re [(1,none),(2,none)] (I62 s 0) (by kernel_rfl) (wkER_cons (LeR.of (by kernel_rfl)) (wkER_cons (LeR.sl_int (y:=nP s) (by kernel_rfl) ((hdBad_f ‹hdBad s=false›).2.1)) (wkER_cons (LeR.of (by kernel_rfl)) (wkER_cons (LeR.nilS (by kernel_rfl) (show 1<3 by decide) rfl) (wkER_cons (LeR.nilS (by kernel_rfl) (show 2<3 by decide) rfl) trivial))))) (wkHR_cons (j:=0) rfl (BkM.blk (k:=⟨[.v (.string s),.v (.int .i64 (posn s 0:Nat)),.v (.bool (Oct.varRes s 0 false).2.2)],.t 174⟩) (k'':=⟨[.v (.string s),.v (.int .i64 (posn s 0:Nat)),.v (.bool (Oct.varRes s 0 false).2.2)],.t 174⟩) (by kernel_rfl) (by kernel_rfl) (by rw[(hdBad_f ‹hdBad s=false›).1])) (wkHR_nil rfl (wkHR_nil rfl trivial))) (fun K hT=>L62p s hs (hdBad_f ‹hdBad s=false›).2.2 _ 0 rfl (Nat.zero_le _) (fun j hj=>absurd hj (Nat.not_lt_zero j)) K hT.1 hT.2))
  |(exact Le.bool rfl)
  |(exact BkR.plain rfl (plain_ens _) (by kernel_rfl))
  |(exact BkR.plain rfl (plain_szs _ _) (by kernel_rfl))
  |(exact absurd (hb.symm.trans (parse_hd (by with_reducible assumption))) (by decide))
  |(exact absurd (hb.symm.trans (parse_no (by with_reducible assumption) (by with_reducible assumption))) (by decide))
  |(exact absurd (hb.symm.trans (parse_l (by with_reducible assumption) (by with_reducible assumption) (by with_reducible assumption))) (by decide))
  |(simp only[*,Bool.and_self,Bool.not_false,Bool.not_true];done)
end Ab
end Go.Proofs.YtpdckpifhniioaaGreat
end
section
set_option linter.unusedVariables false
set_option linter.unusedSimpArgs false
namespace Go.Proofs.YtpdckpifhniioaaGreat
open Go.RowKit
namespace Ab
attribute [local irreducible] CallOKd
def opR (s:ByteArray):ByteArray:=(cutP s ⟨#[71,1]⟩).1
def opC (s:ByteArray):Bool:=(cutP s ⟨#[71,1]⟩).2
def ot1 (s:ByteArray):Nat×Bool:=(Oct.textRes (opR s) 0 false).2
def opI (s:ByteArray):ByteArray:=(Oct.textRes (opR s) 0 false).1
def ot2 (s:ByteArray):Nat×Bool:=(Oct.takeRes (opR s) (ot1 s).1 (ot1 s).2 (Oct.sz 4)).2
def opS (s:ByteArray):Int:=numV (opR s) (ot1 s).1 (ot1 s).2 4
def tot (s:ByteArray):Nat→Int
 |0=>0
 |k+1=>tot s k+szE s k
def stB (s:ByteArray) (b:Bool):Bool:=match s.data.toList with | []=>b|_::_=>b
def opNe (s:ByteArray):Bool:=stB s (opS s != sumI (opI s))
def opT (s:ByteArray):Int:=tot (opI s) (nN (opI s))
def opLf (s:ByteArray):Int:=((opR s).size:Int)-(((ot2 s).1:Nat):Int)
def openE (s:ByteArray):Int:=bif !opC s then 11 else bif (ot2 s).2 then 10 else bif opNe s then 12 else bif !parseB (opI s) then 11 else bif decide (opLf s<opT s) then 10 else bif decide (opLf s>opT s) then 11 else 0
def bpos (s:ByteArray) (k:Nat):Nat:=(ot2 s).1+(tot (opI s) k).toNat
def blE (s:ByteArray) (k:Nat):ByteArray:=(Oct.takeRes (opR s) (bpos s k) false (szE (opI s) k)).1
def EN.bl (e:EN) (b:ByteArray):EN:={e with blob:=b}
def mixE (s:ByteArray) (k:Nat):List EN:=(List.range (nN (opI s))).map fun j=>if j<k then (enE (opI s) j).bl (blE s j) else enE (opI s) j
def openL (s:ByteArray):List EN:=(List.range (nN (opI s))).map fun j=>(enE (opI s) j).bl (blE s j)
theorem stB_eq (s:ByteArray) (b:Bool):stB s b=b:=by unfold stB;split<;>rfl
theorem opNe_eq (s:ByteArray):(opS s != sumI (opI s))=opNe s:=(stB_eq s _).symm
theorem szs_at' (s:ByteArray) {i j k:Nat} (e:i=j) (h:j<k):(szs s k).getD i .u=li (szE s j):=by subst e;exact szs_at s h
theorem op7 (q:ByteArray) (h:q.size≤1000000000000000000) (n:Nat):CallOK Tryz.prog 53 [.c (.l (.v (.string q)))] [] n (iv .u32 (sumI q)) [] 0:=C53 q h n
theorem cutP_le (s t:ByteArray):(cutP s t).1.size≤s.size:=by
 unfold cutP
 cases hasP s t
 ·exact Nat.le_refl _
 ·show (s.extract t.size s.size).size≤_
  rw[ByteArray.size_extract];omega
theorem opR_le (s:ByteArray):(opR s).size≤s.size:=cutP_le _ _
theorem text_le (s:ByteArray) (p:Nat) (f:Bool) (hp:p≤s.size):(Oct.textRes s p f).2.1≤s.size∧(Oct.textRes s p f).1.size≤s.size:=by
 unfold Oct.textRes
 have h1:=Oct.takeRes_le s (Oct.varRes s p f).2.1 (Oct.varRes s p f).2.2 (Oct.varRes s p f).1 (Oct.varRes_le s p f hp)
 have h2:=Oct.takeRes_size s (Oct.varRes s p f).2.1 (Oct.varRes s p f).2.2 (Oct.varRes s p f).1
 simp only[]
 split
 ·exact ⟨hp,Nat.zero_le _⟩
 ·exact ⟨h1,h2⟩
theorem ot1_le (s:ByteArray):(ot1 s).1≤(opR s).size:=(text_le _ _ _ (Nat.zero_le _)).1
theorem opI_le (s:ByteArray):(opI s).size≤(opR s).size:=(text_le _ _ _ (Nat.zero_le _)).2
theorem ot2_le (s:ByteArray):(ot2 s).1≤(opR s).size:=Oct.takeRes_le _ _ _ _ (ot1_le s)
theorem sz_bd {s:ByteArray} {j:Nat} (h:okE s j=true):1≤szE s j∧szE s j≤257:=by
 unfold okE at h
 have h1:bad1 s (posn s j)=false:=by
  cases e:bad1 s (posn s j) with
  |false=>rfl
  |true=>rw[e] at h;cases h
 exact (bad1_f h1).2.2.2
theorem tot_bd {s:ByteArray} {n:Nat} (h:∀j,j<n→okE s j=true):∀k,k≤n→(k:Int)≤tot s k∧tot s k≤257*k
 |0,_=>⟨Int.le_refl _,Int.le_refl _⟩
 |k+1,hk=>by
  have h1:=tot_bd h k (by omega)
  have h2:=sz_bd (h k hk)
  show _≤tot s k+szE s k∧tot s k+szE s k≤_
  omega
theorem tot_mono {s:ByteArray} {n:Nat} (h:∀j,j<n→okE s j=true) {k:Nat}:∀m,k+m≤n→tot s k≤tot s (k+m)
 |0,_=>Int.le_refl _
 |m+1,hk=>by
  have h1:=tot_mono (k:=k) h m (by omega)
  have h2:=sz_bd (h (k+m) (by omega))
  show _≤tot s (k+m)+szE s (k+m)
  omega
theorem bl_step {s:ByteArray} (hp:parseB (opI s)=true) (hl:opLf s=opT s) {k:Nat} (hk:k<nN (opI s)) :
  Oct.takeRes (opR s) (bpos s k) false (szE (opI s) k)=((opR s).extract (bpos s k) (bpos s (k+1)),bpos s (k+1),false):=by
 obtain ⟨_,hok,_⟩:=parse_f hp
 have h1:=tot_bd hok k (by omega)
 have h2:=sz_bd (hok k hk)
 have h3:=tot_mono hok (k:=k+1) (nN (opI s)-(k+1)) (by omega)
 rw[show k+1+(nN (opI s)-(k+1))=nN (opI s) by omega] at h3
 have h4:tot (opI s) (k+1)=tot (opI s) k+szE (opI s) k:=rfl
 have h5:((bpos s k:Nat):Int)=((ot2 s).1:Nat)+tot (opI s) k:=by unfold bpos;omega
 have h6:bpos s k+(szE (opI s) k).toNat=bpos s (k+1):=by unfold bpos;omega
 have h7:((opR s).size:Int)-(((ot2 s).1:Nat):Int)=tot (opI s) (nN (opI s)):=hl
 unfold Oct.takeRes
 rw[if_neg (by
  rintro (h|h|h)
  ·cases h
  ·omega
  ·omega),h6]
theorem bpos_le {s:ByteArray} (hp:parseB (opI s)=true) (hl:opLf s=opT s) {k:Nat} (hk:k≤nN (opI s)):bpos s k≤(opR s).size:=by
 obtain ⟨_,hok,_⟩:=parse_f hp
 have h1:=tot_bd hok k hk
 have h3:=tot_mono hok (k:=k) (nN (opI s)-k) (by omega)
 rw[show k+(nN (opI s)-k)=nN (opI s) by omega] at h3
 have h7:((opR s).size:Int)-(((ot2 s).1:Nat):Int)=tot (opI s) (nN (opI s)):=hl
 unfold bpos;omega
theorem nN_le {s:ByteArray} (hp:parseB s=true):nN s≤1024:=(hdBad_f (parse_f hp).1).2.2
theorem mixE_len (s:ByteArray) (k:Nat):(mixE s k).length=nN (opI s):=by simp[mixE]
theorem openL_len (s:ByteArray):(openL s).length=nN (opI s):=by simp[openL]
theorem mixE_zero (s:ByteArray):mixE s 0=ents (opI s) (nN (opI s)):=by
 unfold mixE ents
 exact List.map_congr_left fun j _=>if_neg (Nat.not_lt_zero j)
theorem mixE_all (s:ByteArray):mixE s (nN (opI s))=openL s:=by
 unfold mixE openL
 exact List.map_congr_left fun j hj=>if_pos (List.mem_range.1 hj)
theorem mixE_set (s:ByteArray) {k:Nat} (hk:k<nN (opI s)):(mixE s k).set k ((enE (opI s) k).bl (blE s k))=mixE s (k+1):=by
 apply List.ext_getElem?
 intro i
 rw[List.getElem?_set,mixE_len]
 unfold mixE
 simp only[List.getElem?_map,List.getElem?_range]
 by_cases hi:i<nN (opI s)
 ·rw[List.getElem?_range hi]
  by_cases e:k=i
  ·subst e;rw[if_pos rfl,if_pos hk];simp
  ·rw[if_neg e]
   simp only[Option.map_some,Option.some.injEq]
   by_cases h1:i<k
   ·rw[if_pos h1,if_pos (by omega)]
   ·rw[if_neg h1,if_neg (by omega)]
 ·rw[if_neg (by omega:¬k=i),List.getElem?_eq_none (by rw[List.length_range];omega)];rfl
theorem mixE_at (s:ByteArray) {k:Nat} (hk:k<nN (opI s)):ea (mixE s k) k=enE (opI s) k:=by simp[ea,mixE,List.getD,hk]
theorem ens_blob:∀(l:List EN) (k:Nat) (b:ByteArray),k<l.length→(ens l).set (k*8+7) (.v (.string b))=ens (l.set k ((ea l k).bl b))
 |[],k,b,h=>by simp at h
 |e::l,0,b,h=>by simp[ens,ea,en,EN.bl]
 |e::l,k+1,b,h=>by
  have ih:=ens_blob l k b (by simpa using h)
  have e1:ens (e::l)=en e++ens l:=by simp[ens]
  have e2:ens ((e::l).set (k+1) ((ea (e::l) (k+1)).bl b))=en e++ens (l.set k ((ea l k).bl b)):=by simp[ens,ea]
  rw[e1,e2,←ih,List.set_append_right _ _ (by show 8≤_;omega)]
  rw[show (en e).length=8 from rfl,show (k+1)*8+7-8=k*8+7 by omega]
theorem mix_step (s:ByteArray) {k:Nat} (hk:k<nN (opI s)):splice (ens (mixE s k)) (k*8+7) [.v (.string (blE s k))]=ens (mixE s (k+1)):=by
 show (ens (mixE s k)).set (k*8+7) _=_
 rw[ens_blob _ _ _ (by rw[mixE_len];exact hk),mixE_at s hk,mixE_set s hk]
theorem ok_addT {s:ByteArray} {n k:Nat} (h:∀j,j<n→okE s j=true) (hk:k<n) (hn:n≤1024):IntKind.i64.wrap (tot s k+szE s k)=tot s k+szE s k:=by
 have h1:=tot_bd h (k+1) hk
 have h2:tot s (k+1)=tot s k+szE s k:=rfl
 rw[h2] at h1
 generalize tot s k+szE s k=z at *
 exact okw _ (by omega) (by omega)
theorem op1 (s:ByteArray) (hs:s.size≤1000000000000000000) (n:Nat):CallOK Tryz.prog 57 [.c (.l (.v (.string s))),.c (.l (.v (.string ⟨#[71,1]⟩)))] [] n (.tup [.l (.v (.string (opR s))),.l (.v (.bool (opC s)))]) [] 0:=C57 s _ hs n
theorem op2 (s:ByteArray) (hs:(opR s).size≤1000000000000000000) (id n:Nat):CallOK Tryz.prog 59 [.c (.l (.p id 0))] [(id,⟨[.v (.string (opR s)),.v (.int .i64 0),.v (.bool false)],.t 174⟩)] n (.c (.l (.v (.string (opI s))))) [(id,⟨[.v (.string (opR s)),.v (.int .i64 ((ot1 s).1:Nat)),.v (.bool (ot1 s).2)],.t 174⟩)] 0:=C59 id (opR s) (0:Nat) false hs (by decide) (Int.natCast_nonneg _) n
theorem op3 (s:ByteArray) (hs:(opR s).size≤1000000000000000000) (id n:Nat):CallOK Tryz.prog 60 [.c (.l (.p id 0)),iv .i64 4] [(id,⟨[.v (.string (opR s)),.v (.int .i64 ((ot1 s).1:Nat)),.v (.bool (ot1 s).2)],.t 174⟩)] n (iv .i64 (opS s)) [(id,⟨[.v (.string (opR s)),.v (.int .i64 ((ot2 s).1:Nat)),.v (.bool (ot2 s).2)],.t 174⟩)] 0:=C60 id (opR s) ((ot1 s).1:Nat) (ot1 s).2 4 hs (Int.natCast_nonneg _) (Int.ofNat_le.2 (ot1_le s)) n
theorem op4 (s:ByteArray) (id n:Nat):CallOK Tryz.prog 61 [.c (.l (.p id 0))] [(id,⟨[.v (.string (opR s)),.v (.int .i64 ((ot2 s).1:Nat)),.v (.bool (ot2 s).2)],.t 174⟩)] n (bv (ot2 s).2) [] 0:=C61 id (opR s) ((ot2 s).1:Nat) (ot2 s).2 (Int.natCast_nonneg _) n
theorem op5 (s:ByteArray) (f:Bool) (hs:(opR s).size≤1000000000000000000) (id n:Nat):CallOK Tryz.prog 63 [.c (.l (.p id 0))] [(id,⟨[.v (.string (opR s)),.v (.int .i64 ((ot2 s).1:Nat)),.v (.bool f)],.t 174⟩)] n (iv .i64 (opLf s)) [] 0:=C63 id (opR s) ((ot2 s).1:Nat) f hs (Int.natCast_nonneg _) (Int.ofNat_le.2 (ot2_le s)) n
theorem op6 (s:ByteArray) (hs:(opR s).size≤1000000000000000000) (hp:parseB (opI s)=true) (hl:opLf s=opT s) {k:Nat} (hk:k<nN (opI s)) (id n:Nat):CallOK Tryz.prog 64 [.c (.l (.p id 0)),iv .i64 (szE (opI s) k)] [(id,⟨[.v (.string (opR s)),.v (.int .i64 (bpos s k:Nat)),.v (.bool false)],.t 174⟩)] n (.c (.l (.v (.string (blE s k))))) [(id,⟨[.v (.string (opR s)),.v (.int .i64 (bpos s (k+1):Nat)),.v (.bool false)],.t 174⟩)] 0:=by
 have key:=C64 id (opR s) (bpos s k:Nat) false (szE (opI s) k) hs (Int.natCast_nonneg _) (Int.ofNat_le.2 (bpos_le hp hl (Nat.le_of_lt hk))) n
 have e:((bpos s k:Nat):Int).toNat=bpos s k:=rfl
 rw[e,show (Oct.takeRes (opR s) (bpos s k) false (szE (opI s) k)).2.1=bpos s (k+1) by rw[bl_step hp hl hk],show (Oct.takeRes (opR s) (bpos s k) false (szE (opI s) k)).2.2=false by rw[bl_step hp hl hk]] at key
 exact key
theorem op_parse {s:ByteArray} (h:openE s=0):parseB (opI s)=true:=by
 unfold openE at h
 cases h1:opC s<;>cases h2:(ot2 s).2<;>cases h3:opNe s<;>cases h4:parseB (opI s)<;>simp_all
def I15a (s:ByteArray) (k:Nat):St:=⟨[(47,iv .i64 (k:Nat)),(46,iv .i64 (nN (opI s):Nat)),(45,.c (.l (.o 2 (nN (opI s))))),(12,iv .i64 (tot (opI s) k)),(6,.c (.l (.p 0 0))),(9,.c (.l (.o 1 (nN (opI s))))),(10,.c (.l (.o 2 (nN (opI s))))),(11,iv .i64 0)],[(0,some ⟨[.v (.string (opR s)),.v (.int .i64 ((ot2 s).1:Nat)),.v (.bool false)],.t 174⟩),(1,some ⟨ens (ents (opI s) (nN (opI s))),.r 123 8 1⟩),(2,some ⟨szs (opI s) (nN (opI s)),.r 3 1 2⟩)],3,87,[2,1,0],(0)⟩
def I15b (s:ByteArray) (k:Nat):St:=⟨[(71,iv .i64 (k:Nat)),(70,iv .i64 (nN (opI s):Nat)),(69,.c (.l (.o 2 (nN (opI s))))),(6,.c (.l (.p 0 0))),(9,.c (.l (.o 1 (nN (opI s)))))],[(0,some ⟨[.v (.string (opR s)),.v (.int .i64 (bpos s k:Nat)),.v (.bool false)],.t 174⟩),(1,some ⟨ens (mixE s k),.r 123 8 1⟩),(2,some ⟨szs (opI s) (nN (opI s)),.r 3 1 2⟩)],3,87,[2,1,0],(0)⟩
def cz_R15a (s:ByteArray) (k:Nat):Cz:={
 ct:=(fun f=>match f with
 |_=>none)
 eq:=(fun t=>match t with
 |_=>none)
 raw:=[],sym:=[49,50],nf:=[(50,iv .i64 (szE (opI s) k)),(53,iv .i64 (tot (opI s) (k+1)))],ap:=true,off:=[],on:=[],lp:=fun _=>none,un:=0}
set_option maxRecDepth 100000 in
theorem R15a (s:ByteArray) (k:Nat)  (K:Exit→St→Prop) (h:HB (decide ((Nat.cast k:Int)<(Nat.cast ((nN (opI s))):Int))) (InR ((Nat.cast k:Int)) (nN (opI s))∧((Nat.cast k:Int)).toNat*1<(szs (opI s) (nN (opI s))).length∧Le (SV.c (Cp.l ((szs (opI s) (nN (opI s))).getD (((Nat.cast k:Int)).toNat*1) Leaf.u))) (iv IntKind.i64 (szE (opI s) k))∧IntKind.i64.wrap (tot (opI s) k+szE (opI s) k)=tot (opI s) k+szE (opI s) k∧Le (iv IntKind.i64 (tot (opI s) k+szE (opI s) k)) (iv IntKind.i64 (tot (opI s) (k+1)))∧IntKind.i64.wrap ((Nat.cast k:Int)+1)=(Nat.cast k:Int)+1∧RoundTo Tryz.prog ((getLoop 13 (Tryz.f15.body.getD Code.skip)).getD Code.skip) 3 (wkK 3 K) (St.mk [(6,SV.c (Cp.l (Leaf.p 0 0))),(9,SV.c (Cp.l (Leaf.o 1 (nN (opI s))))),(10,SV.c (Cp.l (Leaf.o 2 (nN (opI s))))),(11,iv IntKind.i64 0),(12,iv IntKind.i64 (tot (opI s) (k+1))),(45,SV.c (Cp.l (Leaf.o 2 (nN (opI s))))),(46,iv IntKind.i64 (Nat.cast ((nN (opI s))):Int)),(47,iv IntKind.i64 ((Nat.cast k:Int)+1))] [(0,some (Blk.mk [Leaf.v (Value.string (opR s)),li (Nat.cast ((ot2 s).fst):Int),lb false] (BT.t 174))),(1,some (Blk.mk (ens (ents (opI s) (nN (opI s)))) (BT.r 123 8 1))),(2,some (Blk.mk (szs (opI s) (nN (opI s))) (BT.r 3 1 2)))] 3 87 [2,1,0] 0)) (wkK 3 K (Exit.exit 1) (St.mk [(6,SV.c (Cp.l (Leaf.p 0 0))),(9,SV.c (Cp.l (Leaf.o 1 (nN (opI s))))),(10,SV.c (Cp.l (Leaf.o 2 (nN (opI s))))),(11,iv IntKind.i64 0),(12,iv IntKind.i64 (tot (opI s) k)),(45,SV.c (Cp.l (Leaf.o 2 (nN (opI s))))),(46,iv IntKind.i64 (Nat.cast ((nN (opI s))):Int)),(47,iv IntKind.i64 (Nat.cast k:Int))] [(0,some (Blk.mk [Leaf.v (Value.string (opR s)),li (Nat.cast ((ot2 s).fst):Int),lb false] (BT.t 174))),(1,some (Blk.mk (ens (ents (opI s) (nN (opI s)))) (BT.r 123 8 1))),(2,some (Blk.mk (szs (opI s) (nN (opI s))) (BT.r 3 1 2)))] 3 87 [2,1,0] 0))):WPL Tryz.prog ((getLoop 13 (Tryz.f15.body.getD .skip)).getD .skip) (I15a s k) (wkK 3 K):=
 wp_roundT [6,9,10,11,12,45,46,47] [0,1,2] (cx:=cz_R15a s k) rfl (of_eq (by kernel_rfl) h)
set_option maxRecDepth 100000 in
set_option maxHeartbeats 4000000 in
theorem L15a (s:ByteArray) (hok:∀j,j<(nN (opI s))→okE (opI s) j=true) (hn:(nN (opI s))≤1024):∀(m k:Nat),(nN (opI s))-k=m→k≤(nN (opI s))→∀(K:Exit→St→Prop),K (.exit 1) (I15a s (nN (opI s)))→WPL Tryz.prog ((getLoop 13 (Tryz.f15.body.getD .skip)).getD .skip) (I15a s k) (wkK 3 K)
 |0,k,hm,hk,K,hK=>by
  have e:k=(nN (opI s)):=by omega
  subst e
  refine R15a s _ K (HB.mk (fun hne=>absurd (of_decide_eq_true hne) (by omega)) (fun he=>?_))
  exact wkK.to (I15a s _) (Nat.le_refl _) (by kernel_rfl) (wkE_cons (LeN.sl (by kernel_rfl) rfl) (wkE_cons (LeN.sl (by kernel_rfl) rfl) (wkE_cons (LeN.sl (by kernel_rfl) rfl) (wkE_cons (LeN.sl (by kernel_rfl) rfl) (wkE_cons (LeN.sl (by kernel_rfl) rfl) (wkE_cons (LeN.sl (by kernel_rfl) rfl) (wkE_cons (LeN.sl (by kernel_rfl) rfl) (wkE_cons (LeN.sl (by kernel_rfl) rfl) trivial)))))))) (wkH_cons (BkN.blk (k:=⟨[.v (.string (opR s)),.v (.int .i64 ((ot2 s).1:Nat)),.v (.bool false)],.t 174⟩) (by kernel_rfl) (rfl) (by kernel_rfl)) (wkH_cons (BkN.plain (cs:=ens (ents (opI s) (nN (opI s)))) (b:=.r 123 8 1) (by kernel_rfl) (rfl) (plain_ens _) (by kernel_rfl)) (wkH_cons (BkN.plain (cs:=szs (opI s) (nN (opI s))) (b:=.r 3 1 2) (by kernel_rfl) (rfl) (plain_szs _ _) (by kernel_rfl)) trivial))) hK
 |m+1,k,hm,hk,K,hK=>by
  refine R15a s k K (HB.mk (fun hne=>?_) (fun he=>absurd (show ((k:Nat):Int)<((nN (opI s)):Nat) by omega) (of_decide_eq_false he)))
  have hlt:k<(nN (opI s)):=by omega
  repeat' (first|exact trivial|with_reducible apply And.intro|(with_reducible apply HB.mk)|with_reducible intro _)
  all_goals first
   |(exact ⟨by omega,by omega⟩)
   |((rw[szs_len];omega))
   |(exact Le.of (congrArg (fun l=>SV.c (.l l)) (szs_at' _ (by omega) hlt)))
   |(exact ok_addT hok hlt hn)
   |(exact Le.int rfl)
   |((with_reducible refine RoundTo.toN 3 (I15a s (k+1)) ?_ ?_ ?_ ?_ ?_);exact Nat.le_refl _;kernel_rfl;exact (wkE_cons (LeN.sl (by kernel_rfl) rfl) (wkE_cons (LeN.sl (by kernel_rfl) rfl) (wkE_cons (LeN.sl (by kernel_rfl) rfl) (wkE_cons (LeN.sl (by kernel_rfl) rfl) (wkE_cons (LeN.sl (by kernel_rfl) rfl) (wkE_cons (LeN.sl (by kernel_rfl) rfl) (wkE_cons (LeN.sl (by kernel_rfl) rfl) (wkE_cons (LeN.sl (by kernel_rfl) rfl) trivial))))))));exact (wkH_cons (BkN.blk (k:=⟨[.v (.string (opR s)),.v (.int .i64 ((ot2 s).1:Nat)),.v (.bool false)],.t 174⟩) (by kernel_rfl) (rfl) (by kernel_rfl)) (wkH_cons (BkN.plain (cs:=ens (ents (opI s) (nN (opI s)))) (b:=.r 123 8 1) (by kernel_rfl) (rfl) (plain_ens _) (by kernel_rfl)) (wkH_cons (BkN.plain (cs:=szs (opI s) (nN (opI s))) (b:=.r 3 1 2) (by kernel_rfl) (rfl) (plain_szs _ _) (by kernel_rfl)) trivial)));exact (L15a s hok hn m (k+1) (by omega) (by omega) K hK))
   |(exact okw _ (by omega) (by omega))
def cz_R15b (s:ByteArray) (k:Nat):Cz:={
 ct:=(fun f=>match f with
 |64=>some fun _ _S ar=>match ar with | [.c (.l (.p i _)),.c (.l (.v (.int _ m)))]=>some {v:=.c (.l (.v (.string (blE s k)))),rd:=[i],wr:=[(i,⟨[.v (.string (opR s)),.v (.int .i64 (bpos s (k+1):Nat)),.v (.bool false)],.t 174⟩)],nw:=0}|_=>none
 |_=>none)
 eq:=(fun t=>match t with
 |_=>none)
 raw:=[],sym:=[0,74,75,81],nf:=[(75,iv .i64 (szE (opI s) k))],ap:=true,off:=[],on:=[],lp:=fun _=>none,un:=0}
set_option maxRecDepth 100000 in
theorem R15b (s:ByteArray) (k:Nat)  (K:Exit→St→Prop) (h:HB (decide ((Nat.cast k:Int)<(Nat.cast ((nN (opI s))):Int))) (InR ((Nat.cast k:Int)) (nN (opI s))∧((Nat.cast k:Int)).toNat*1<(szs (opI s) (nN (opI s))).length∧Le (SV.c (Cp.l ((szs (opI s) (nN (opI s))).getD (((Nat.cast k:Int)).toNat*1) Leaf.u))) (iv IntKind.i64 (szE (opI s) k))∧CallOKd Tryz.prog 64 [] [SV.c (Cp.l (Leaf.p 0 0)),iv IntKind.i64 (szE (opI s) k)] [(0,Blk.mk [Leaf.v (Value.string (opR s)),li (Nat.cast ((bpos s k)):Int),lb false] (BT.t 174))] 3 (SV.c (Cp.l (Leaf.v (Value.string (blE s k))))) [(0,Blk.mk [Leaf.v (Value.string (opR s)),li (Nat.cast ((bpos s (k+1))):Int),lb false] (BT.t 174))] 0∧InR ((Nat.cast k:Int)) (nN (opI s))∧((Nat.cast k:Int)).toNat*8+7+1≤(ens (mixE s k)).length∧IntKind.i64.wrap ((Nat.cast k:Int)+1)=(Nat.cast k:Int)+1∧RoundTo Tryz.prog ((getLoop 24 (Tryz.f15.body.getD Code.skip)).getD Code.skip) 3 (wkK 3 K) (St.mk [(6,SV.c (Cp.l (Leaf.p 0 0))),(9,SV.c (Cp.l (Leaf.o 1 (nN (opI s))))),(69,SV.c (Cp.l (Leaf.o 2 (nN (opI s))))),(70,iv IntKind.i64 (Nat.cast ((nN (opI s))):Int)),(71,iv IntKind.i64 ((Nat.cast k:Int)+1))] [(0,some (Blk.mk [Leaf.v (Value.string (opR s)),li (Nat.cast ((bpos s (k+1))):Int),lb false] (BT.t 174))),(1,some (Blk.mk (splice (ens (mixE s k)) (((Nat.cast k:Int)).toNat*8+7) [Leaf.v (Value.string (blE s k))]) (BT.r 123 8 1))),(2,some (Blk.mk (szs (opI s) (nN (opI s))) (BT.r 3 1 2)))] 3 87 [1,0,2,1,0] 0)) (wkK 3 K (Exit.exit 4) (St.mk [(6,SV.c (Cp.l (Leaf.p 0 0))),(9,SV.c (Cp.l (Leaf.o 1 (nN (opI s))))),(69,SV.c (Cp.l (Leaf.o 2 (nN (opI s))))),(70,iv IntKind.i64 (Nat.cast ((nN (opI s))):Int)),(71,iv IntKind.i64 (Nat.cast k:Int))] [(0,some (Blk.mk [Leaf.v (Value.string (opR s)),li (Nat.cast ((bpos s k)):Int),lb false] (BT.t 174))),(1,some (Blk.mk (ens (mixE s k)) (BT.r 123 8 1))),(2,some (Blk.mk (szs (opI s) (nN (opI s))) (BT.r 3 1 2)))] 3 87 [2,1,0] 0))):WPL Tryz.prog ((getLoop 24 (Tryz.f15.body.getD .skip)).getD .skip) (I15b s k) (wkK 3 K):=
 wp_roundT [6,9,69,70,71] [0,1,2] (cx:=cz_R15b s k) rfl (of_eq (by kernel_rfl) h)
set_option maxRecDepth 100000 in
set_option maxHeartbeats 4000000 in
theorem L15b (s:ByteArray) (hr:(opR s).size≤1000000000000000000) (hp:parseB (opI s)=true) (hl:opLf s=opT s):∀(m k:Nat),(nN (opI s))-k=m→k≤(nN (opI s))→∀(K:Exit→St→Prop),K (.exit 4) (I15b s (nN (opI s)))→WPL Tryz.prog ((getLoop 24 (Tryz.f15.body.getD .skip)).getD .skip) (I15b s k) (wkK 3 K)
 |0,k,hm,hk,K,hK=>by
  have e:k=(nN (opI s)):=by omega
  subst e
  refine R15b s _ K (HB.mk (fun hne=>absurd (of_decide_eq_true hne) (by omega)) (fun he=>?_))
  exact wkK.to (I15b s _) (Nat.le_refl _) (by kernel_rfl) (wkE_cons (LeN.sl (by kernel_rfl) rfl) (wkE_cons (LeN.sl (by kernel_rfl) rfl) (wkE_cons (LeN.sl (by kernel_rfl) rfl) (wkE_cons (LeN.sl (by kernel_rfl) rfl) (wkE_cons (LeN.sl (by kernel_rfl) rfl) trivial))))) (wkH_cons (BkN.blk (k:=⟨[.v (.string (opR s)),.v (.int .i64 (bpos s (nN (opI s)):Nat)),.v (.bool false)],.t 174⟩) (by kernel_rfl) (rfl) (by kernel_rfl)) (wkH_cons (BkN.plain (cs:=ens (mixE s (nN (opI s)))) (b:=.r 123 8 1) (by kernel_rfl) (rfl) (plain_ens _) (by kernel_rfl)) (wkH_cons (BkN.plain (cs:=szs (opI s) (nN (opI s))) (b:=.r 3 1 2) (by kernel_rfl) (rfl) (plain_szs _ _) (by kernel_rfl)) trivial))) hK
 |m+1,k,hm,hk,K,hK=>by
  refine R15b s k K (HB.mk (fun hne=>?_) (fun he=>absurd (show ((k:Nat):Int)<((nN (opI s)):Nat) by omega) (of_decide_eq_false he)))
  have hlt:k<(nN (opI s)):=by omega
  have hn:=nN_le hp
  repeat' (first|exact trivial|with_reducible apply And.intro|(with_reducible apply HB.mk)|with_reducible intro _)
  all_goals first
   |((with_reducible exact op6 s hr hp hl hlt _ _))
   |(exact ⟨by omega,by omega⟩)
   |((rw[szs_len];omega))
   |((rw[ens_len,mixE_len];omega))
   |(exact Le.of (congrArg (fun l=>SV.c (.l l)) (szs_at' _ (by omega) hlt)))
   |((with_reducible refine RoundTo.toN 3 (I15b s (k+1)) ?_ ?_ ?_ ?_ ?_);exact Nat.le_refl _;kernel_rfl;exact (wkE_cons (LeN.sl (by kernel_rfl) rfl) (wkE_cons (LeN.sl (by kernel_rfl) rfl) (wkE_cons (LeN.sl (by kernel_rfl) rfl) (wkE_cons (LeN.sl (by kernel_rfl) rfl) (wkE_cons (LeN.sl (by kernel_rfl) rfl) trivial)))));exact (wkH_cons (BkN.blk (k:=⟨[.v (.string (opR s)),.v (.int .i64 (bpos s (k+1):Nat)),.v (.bool false)],.t 174⟩) (by kernel_rfl) (rfl) (by kernel_rfl)) (wkH_cons (BkN.plain (cs:=splice (ens (mixE s k)) (k*8+7) [.v (.string (blE s k))]) (b:=.r 123 8 1) (by kernel_rfl) (mix_step s hlt) (plain_ens _) (by kernel_rfl)) (wkH_cons (BkN.plain (cs:=szs (opI s) (nN (opI s))) (b:=.r 3 1 2) (by kernel_rfl) (rfl) (plain_szs _ _) (by kernel_rfl)) trivial)));exact (L15b s hr hp hl m (k+1) (by omega) (by omega) K hK))
   |(exact okw _ (by omega) (by omega))
attribute [local irreducible] Oct.M.sum
theorem enters15:Enters Tryz.prog 15:=fun args w=>by go_simp
def cz_C15p (s:ByteArray):Cz:={
 ct:=(fun f=>match f with
 |53=>some fun _ _S ar=>match ar with | [.c (.l (.v (.string q)))]=>some {v:=iv .u32 (sumI q),rd:=[],wr:=[],nw:=0}|_=>none
 |57=>some fun _ _S ar=>match ar with | [_,_]=>some {v:=.tup [.l (.v (.string (opR s))),.l (.v (.bool (opC s)))],rd:=[],wr:=[],nw:=0}|_=>none
 |58=>some fun _ _S ar=>match ar with | [.c (.l (.v (.string q)))]=>some {v:=.c (.l (.p _S.n 0)),rd:=[],wr:=[(_S.n,⟨[.v (.string q),.v (.int .i64 0),.v (.bool false)],.t 174⟩)],nw:=1}|_=>none
 |59=>some fun _ _S ar=>match ar with | [.c (.l (.p i _))]=>some {v:=.c (.l (.v (.string (opI s)))),rd:=[i],wr:=[(i,⟨[.v (.string (opR s)),.v (.int .i64 ((ot1 s).1:Nat)),.v (.bool (ot1 s).2)],.t 174⟩)],nw:=0}|_=>none
 |60=>some fun _ _S ar=>match ar with | [.c (.l (.p i _)),_]=>some {v:=iv .i64 (opS s),rd:=[i],wr:=[(i,⟨[.v (.string (opR s)),.v (.int .i64 ((ot2 s).1:Nat)),.v (.bool (ot2 s).2)],.t 174⟩)],nw:=0}|_=>none
 |61=>some fun _ _S ar=>match ar with | [.c (.l (.p i _))]=>some {v:=bv (ot2 s).2,rd:=[i],wr:=[],nw:=0}|_=>none
 |62=>some fun _ _S ar=>match ar with | [.c (.l (.v (.string q)))]=>some {v:=.tup [.l (.v (.slice none 0 0)),.l (.v (.slice none 0 0)),.l (li 11)],rd:=[],wr:=[],nw:=0}|_=>none
 |63=>some fun _ _S ar=>match ar with | [.c (.l (.p i _))]=>some {v:=iv .i64 (opLf s),rd:=[i],wr:=[],nw:=0}|_=>none
 |_=>none)
 eq:=(fun t=>match t with
 |_=>none)
 raw:=[],sym:=[],nf:=[(37,iv .i64 (sumI (opI s))),(38,bv (opNe s))],ap:=true,off:=[],on:=[],lp:=fun _=>none,un:=2}
theorem CallOKd.off {P:Program} {f:Nat} {dc:List (Nat×Nat×Bool)} {args:List SV} {v:SV} {wr:List (Nat×Blk)} {nw:Nat} (h:CallOKd P f dc args [] 0 v wr nw) (n:Nat) :
  CallOKd P f (dc.map fun p=>(n+p.1,p.2)) (args.map (SV.ren (n + ·))) [] n (v.ren (n + ·)) (wr.map fun p=>(n+p.1,p.2.ren (n + ·))) nw:=
 CallOKd.ren h (n + ·) n (fun i h=>absurd h (Nat.not_lt_zero i)) (fun i _=>rfl) (fun i j h _ _=>absurd h (Nat.not_lt_zero i))
theorem C62g (s:ByteArray) (hs:s.size≤1000000000000000000) (hb:parseB s=true) (n:Nat):CallOK Tryz.prog 62 [.c (.l (.v (.string s)))] [] n (.tup [.l (.o n (nN s)),.l (.o (n+1) (nN s)),.l (li 0)]) [(n,⟨ens (ents s (nN s)),.r 123 8 n⟩),(n+1,⟨szs s (nN s),.r 3 1 (n+1)⟩)] 2:=by
 have key:=CallOKd.off (C62k s hs hb) n
 simp only[List.map_cons,List.map_nil,Blk.ren,SV.ren,Cp.ren,Leaf.ren,BT.ren,ren_plain (plain_ens _),ren_plain (plain_szs _ _),Nat.add_zero] at key
 exact key
theorem le_of_left {s:ByteArray} (h1:decide (opLf s<opT s)=false) (h2:decide (opLf s>opT s)=false):opLf s=opT s:=by
 have:=of_decide_eq_false h1
 have:=of_decide_eq_false h2
 omega
def cz_C15q (s:ByteArray):Cz:={
 ct:=(fun f=>match f with
 |53=>some fun _ _S ar=>match ar with | [.c (.l (.v (.string q)))]=>some {v:=iv .u32 (sumI q),rd:=[],wr:=[],nw:=0}|_=>none
 |57=>some fun _ _S ar=>match ar with | [_,_]=>some {v:=.tup [.l (.v (.string (opR s))),.l (.v (.bool (opC s)))],rd:=[],wr:=[],nw:=0}|_=>none
 |58=>some fun _ _S ar=>match ar with | [.c (.l (.v (.string q)))]=>some {v:=.c (.l (.p _S.n 0)),rd:=[],wr:=[(_S.n,⟨[.v (.string q),.v (.int .i64 0),.v (.bool false)],.t 174⟩)],nw:=1}|_=>none
 |59=>some fun _ _S ar=>match ar with | [.c (.l (.p i _))]=>some {v:=.c (.l (.v (.string (opI s)))),rd:=[i],wr:=[(i,⟨[.v (.string (opR s)),.v (.int .i64 ((ot1 s).1:Nat)),.v (.bool (ot1 s).2)],.t 174⟩)],nw:=0}|_=>none
 |60=>some fun _ _S ar=>match ar with | [.c (.l (.p i _)),_]=>some {v:=iv .i64 (opS s),rd:=[i],wr:=[(i,⟨[.v (.string (opR s)),.v (.int .i64 ((ot2 s).1:Nat)),.v (.bool (ot2 s).2)],.t 174⟩)],nw:=0}|_=>none
 |61=>some fun _ _S ar=>match ar with | [.c (.l (.p i _))]=>some {v:=bv (ot2 s).2,rd:=[i],wr:=[],nw:=0}|_=>none
 |62=>some fun _ _S ar=>match ar with | [.c (.l (.v (.string q)))]=>some {v:=.tup [.l (.o _S.n (nN q)),.l (.o (_S.n+1) (nN q)),.l (li 0)],rd:=[],wr:=[(_S.n,⟨ens (ents q (nN q)),.r 123 8 _S.n⟩),(_S.n+1,⟨szs q (nN q),.r 3 1 (_S.n+1)⟩)],nw:=2}|_=>none
 |63=>some fun _ _S ar=>match ar with | [.c (.l (.p i _))]=>some {v:=iv .i64 (opLf s),rd:=[i],wr:=[],nw:=0}|_=>none
 |_=>none)
 eq:=(fun t=>match t with
 |_=>none)
 raw:=[],sym:=[],nf:=[(37,iv .i64 (sumI (opI s))),(38,bv (opNe s)),(63,bv (decide (opLf s<opT s))),(68,bv (decide (opLf s>opT s)))],ap:=true,off:=[],on:=[],lp:=fun r=>match r with|13=>some (fun _ K=>K (.exit 1) (I15a s (nN (opI s))))|24=>some (fun _ K=>K (.exit 4) (I15b s (nN (opI s))))|_=>none,un:=0}
def cz_C15k (s:ByteArray):Cz:={
 ct:=(fun f=>match f with
 |53=>some fun _ _S ar=>match ar with | [.c (.l (.v (.string q)))]=>some {v:=iv .u32 (sumI q),rd:=[],wr:=[],nw:=0}|_=>none
 |57=>some fun _ _S ar=>match ar with | [_,_]=>some {v:=.tup [.l (.v (.string (opR s))),.l (.v (.bool (opC s)))],rd:=[],wr:=[],nw:=0}|_=>none
 |58=>some fun _ _S ar=>match ar with | [.c (.l (.v (.string q)))]=>some {v:=.c (.l (.p _S.n 0)),rd:=[],wr:=[(_S.n,⟨[.v (.string q),.v (.int .i64 0),.v (.bool false)],.t 174⟩)],nw:=1}|_=>none
 |59=>some fun _ _S ar=>match ar with | [.c (.l (.p i _))]=>some {v:=.c (.l (.v (.string (opI s)))),rd:=[i],wr:=[(i,⟨[.v (.string (opR s)),.v (.int .i64 ((ot1 s).1:Nat)),.v (.bool (ot1 s).2)],.t 174⟩)],nw:=0}|_=>none
 |60=>some fun _ _S ar=>match ar with | [.c (.l (.p i _)),_]=>some {v:=iv .i64 (opS s),rd:=[i],wr:=[(i,⟨[.v (.string (opR s)),.v (.int .i64 ((ot2 s).1:Nat)),.v (.bool (ot2 s).2)],.t 174⟩)],nw:=0}|_=>none
 |61=>some fun _ _S ar=>match ar with | [.c (.l (.p i _))]=>some {v:=bv (ot2 s).2,rd:=[i],wr:=[],nw:=0}|_=>none
 |62=>some fun _ _S ar=>match ar with | [.c (.l (.v (.string q)))]=>some {v:=.tup [.l (.o _S.n (nN q)),.l (.o (_S.n+1) (nN q)),.l (li 0)],rd:=[],wr:=[(_S.n,⟨ens (ents q (nN q)),.r 123 8 _S.n⟩),(_S.n+1,⟨szs q (nN q),.r 3 1 (_S.n+1)⟩)],nw:=2}|_=>none
 |63=>some fun _ _S ar=>match ar with | [.c (.l (.p i _))]=>some {v:=iv .i64 (opLf s),rd:=[i],wr:=[],nw:=0}|_=>none
 |_=>none)
 eq:=(fun t=>match t with
 |_=>none)
 raw:=[],sym:=[],nf:=[(37,iv .i64 (sumI (opI s))),(38,bv (opNe s)),(63,bv (decide (opLf s<opT s))),(68,bv (decide (opLf s>opT s)))],ap:=true,off:=[],on:=[],lp:=fun r=>match r with|13=>some (fun _ K=>K (.exit 1) (I15a s (nN (opI s))))|24=>some (fun _ K=>K (.exit 4) (I15b s (nN (opI s))))|_=>none,un:=0}
set_option maxRecDepth 100000 in
set_option maxHeartbeats 400000 in
theorem C15k (s:ByteArray) (hs:s.size≤1000000000000000000) (he:openE s=0):CallOK Tryz.prog 15 [.c (.l (.v (.string s)))] [] 0 (.tup [.l (.p 0 0),.l (li 0)]) [(0,⟨[.o 1 (nN (opI s)),li 0],.t 125⟩),(1,⟨ens (openL s),.r 123 8 1⟩)] 2:=by
 have hp:=op_parse he
 have hr:(opR s).size≤1000000000000000000:=Nat.le_trans (opR_le s) hs
 have hi:(opI s).size≤1000000000000000000:=Nat.le_trans (opI_le s) hr
 have hok:=(parse_f hp).2.1
 have hn:=nN_le hp
 refine call_ok (cx:=cz_C15k s) (nm:=[3,1]) rfl Tryz.func15 (body:=Tryz.f15.body.getD .skip) rfl enters15 (by kernel_rfl) ?_
 apply of_eq (q:=CallOKd Tryz.prog 57 [] [SV.c (Cp.l (Leaf.v (Value.string s))),SV.c (Cp.l (Leaf.v (Value.string (ByteArray.mk #[71,1]))))] [] 0 (SV.tup [Cp.l (Leaf.v (Value.string (opR s))),Cp.l (lb (opC s))]) [] 0∧HB (!opC s) (Le (SV.tup [Cp.l (Leaf.v (Value.pointer none)),Cp.l (li 11)]) (SV.tup [Cp.l (Leaf.p 0 0),Cp.l (li 0)])∧False) (CallOKd Tryz.prog 58 [] [SV.c (Cp.l (Leaf.v (Value.string (opR s))))] [] 0 (SV.c (Cp.l (Leaf.p 0 0))) [(0,Blk.mk [Leaf.v (Value.string (opR s)),li 0,lb false] (BT.t 174))] 1∧CallOKd Tryz.prog 59 [] [SV.c (Cp.l (Leaf.p 0 0))] [(0,Blk.mk [Leaf.v (Value.string (opR s)),li 0,lb false] (BT.t 174))] 1 (SV.c (Cp.l (Leaf.v (Value.string (opI s))))) [(0,Blk.mk [Leaf.v (Value.string (opR s)),li (Nat.cast ((ot1 s).fst):Int),lb (ot1 s).snd] (BT.t 174))] 0∧CallOKd Tryz.prog 60 [] [SV.c (Cp.l (Leaf.p 0 0)),iv IntKind.i64 4] [(0,Blk.mk [Leaf.v (Value.string (opR s)),li (Nat.cast ((ot1 s).fst):Int),lb (ot1 s).snd] (BT.t 174))] 1 (iv IntKind.i64 (opS s)) [(0,Blk.mk [Leaf.v (Value.string (opR s)),li (Nat.cast ((ot2 s).fst):Int),lb (ot2 s).snd] (BT.t 174))] 0∧CallOKd Tryz.prog 61 [] [SV.c (Cp.l (Leaf.p 0 0))] [(0,Blk.mk [Leaf.v (Value.string (opR s)),li (Nat.cast ((ot2 s).fst):Int),lb (ot2 s).snd] (BT.t 174))] 1 (bv (ot2 s).snd) [] 0∧HB (ot2 s).snd (Le (SV.tup [Cp.l (Leaf.v (Value.pointer none)),Cp.l (li 10)]) (SV.tup [Cp.l (Leaf.p 0 0),Cp.l (li 0)])∧False) (CallOKd Tryz.prog 53 [] [SV.c (Cp.l (Leaf.v (Value.string (opI s))))] [] 1 (iv IntKind.u32 (sumI (opI s))) [] 0∧Le (iv IntKind.i64 (IntKind.i64.wrap (sumI (opI s)))) (iv IntKind.i64 (sumI (opI s)))∧Le (bv (opS s != sumI (opI s))) (bv (opNe s))∧HB (opNe s) (Le (SV.tup [Cp.l (Leaf.v (Value.pointer none)),Cp.l (li 12)]) (SV.tup [Cp.l (Leaf.p 0 0),Cp.l (li 0)])∧False) (CallOKd Tryz.prog 62 [] [SV.c (Cp.l (Leaf.v (Value.string (opI s))))] [] 1 (SV.tup [Cp.l (Leaf.o 1 (nN (opI s))),Cp.l (Leaf.o 2 (nN (opI s))),Cp.l (li 0)]) [(1,Blk.mk (ens (ents (opI s) (nN (opI s)))) (BT.r 123 8 1)),(2,Blk.mk (szs (opI s) (nN (opI s))) (BT.r 3 1 2))] 2∧(LoopOK Tryz.prog ((getLoop 13 (Tryz.f15.body.getD .skip)).getD .skip) (St.mk [(47,iv IntKind.i64 0),(46,iv IntKind.i64 (Nat.cast ((nN (opI s))):Int)),(45,SV.c (Cp.l (Leaf.o 2 (nN (opI s))))),(12,iv IntKind.i64 0),(11,iv IntKind.i64 0),(10,SV.c (Cp.l (Leaf.o 2 (nN (opI s))))),(9,SV.c (Cp.l (Leaf.o 1 (nN (opI s))))),(44,iv IntKind.i64 0),(43,SV.c (Cp.l (Leaf.o 2 (nN (opI s))))),(42,SV.c (Cp.l (Leaf.o 1 (nN (opI s))))),(39,SV.tup [Cp.l (Leaf.o 1 (nN (opI s))),Cp.l (Leaf.o 2 (nN (opI s))),Cp.l (li 0)]),(41,SV.tup [Cp.l (Leaf.o 1 (nN (opI s))),Cp.l (Leaf.o 2 (nN (opI s))),Cp.l (li 0)]),(40,SV.c (Cp.l (Leaf.v (Value.string (opI s))))),(33,bv (opNe s)),(38,bv (opNe s)),(37,iv IntKind.i64 (sumI (opI s))),(36,iv IntKind.u32 (sumI (opI s))),(35,SV.c (Cp.l (Leaf.v (Value.string (opI s))))),(34,iv IntKind.i64 (opS s)),(30,bv (ot2 s).snd),(32,bv (ot2 s).snd),(31,SV.c (Cp.l (Leaf.p 0 0))),(8,iv IntKind.i64 (opS s)),(7,SV.c (Cp.l (Leaf.v (Value.string (opI s))))),(29,iv IntKind.i64 (opS s)),(28,SV.c (Cp.l (Leaf.p 0 0))),(27,SV.c (Cp.l (Leaf.v (Value.string (opI s))))),(26,SV.c (Cp.l (Leaf.p 0 0))),(6,SV.c (Cp.l (Leaf.p 0 0))),(25,SV.c (Cp.l (Leaf.p 0 0))),(24,SV.c (Cp.l (Leaf.v (Value.string (opR s))))),(23,bv !opC s),(22,bv (opC s)),(5,bv (opC s)),(4,SV.c (Cp.l (Leaf.v (Value.string (opR s))))),(21,bv (opC s)),(20,SV.c (Cp.l (Leaf.v (Value.string (opR s))))),(17,SV.tup [Cp.l (Leaf.v (Value.string (opR s))),Cp.l (lb (opC s))]),(19,SV.tup [Cp.l (Leaf.v (Value.string (opR s))),Cp.l (lb (opC s))]),(18,SV.c (Cp.l (Leaf.v (Value.string s)))),(3,iv IntKind.i64 0),(2,SV.c (Cp.l (Leaf.v (Value.pointer none)))),(0,SV.c (Cp.l (Leaf.v (Value.string s))))] [(1,some (Blk.mk (ens (ents (opI s) (nN (opI s)))) (BT.r 123 8 1))),(2,some (Blk.mk (szs (opI s) (nN (opI s))) (BT.r 3 1 2))),(0,some (Blk.mk [Leaf.v (Value.string (opR s)),li (Nat.cast ((ot2 s).fst):Int),lb (ot2 s).snd] (BT.t 174))),(0,some (Blk.mk [Leaf.v (Value.string (opR s)),li (Nat.cast ((ot1 s).fst):Int),lb (ot1 s).snd] (BT.t 174))),(0,some (Blk.mk [Leaf.v (Value.string (opR s)),li 0,lb false] (BT.t 174)))] 3 87 [1,2,0,0,0] 0) fun K=>K (Exit.exit 1) (I15a s (nN (opI s))))∧CallOKd Tryz.prog 63 [] [SV.c (Cp.l (Leaf.p 0 0))] [(0,Blk.mk [Leaf.v (Value.string (opR s)),li (Nat.cast ((ot2 s).fst):Int),lb false] (BT.t 174))] 3 (iv IntKind.i64 (opLf s)) [] 0∧Le (bv (decide (opLf s<tot (opI s) (nN (opI s))))) (bv (decide (opLf s<opT s)))∧HB (decide (opLf s<opT s)) (Le (SV.tup [Cp.l (Leaf.v (Value.pointer none)),Cp.l (li 10)]) (SV.tup [Cp.l (Leaf.p 0 0),Cp.l (li 0)])∧False) (CallOKd Tryz.prog 63 [] [SV.c (Cp.l (Leaf.p 0 0))] [(0,Blk.mk [Leaf.v (Value.string (opR s)),li (Nat.cast ((ot2 s).fst):Int),lb false] (BT.t 174))] 3 (iv IntKind.i64 (opLf s)) [] 0∧Le (bv (decide (opLf s>tot (opI s) (nN (opI s))))) (bv (decide (opLf s>opT s)))∧HB (decide (opLf s>opT s)) (Le (SV.tup [Cp.l (Leaf.v (Value.pointer none)),Cp.l (li 11)]) (SV.tup [Cp.l (Leaf.p 0 0),Cp.l (li 0)])∧False) ((LoopOK Tryz.prog ((getLoop 24 (Tryz.f15.body.getD .skip)).getD .skip) (St.mk [(71,iv IntKind.i64 0),(70,iv IntKind.i64 (Nat.cast ((nN (opI s))):Int)),(69,SV.c (Cp.l (Leaf.o 2 (nN (opI s))))),(64,bv (decide (opLf s>opT s))),(68,bv (decide (opLf s>opT s))),(67,iv IntKind.i64 (tot (opI s) (nN (opI s)))),(66,iv IntKind.i64 (opLf s)),(65,SV.c (Cp.l (Leaf.p 0 0))),(59,bv (decide (opLf s<opT s))),(63,bv (decide (opLf s<opT s))),(62,iv IntKind.i64 (tot (opI s) (nN (opI s)))),(61,iv IntKind.i64 (opLf s)),(60,SV.c (Cp.l (Leaf.p 0 0))),(55,bv (0 != 0)),(57,bv (0 != 0)),(56,iv IntKind.i64 0),(47,iv IntKind.i64 (Nat.cast ((nN (opI s))):Int)),(46,iv IntKind.i64 (Nat.cast ((nN (opI s))):Int)),(45,SV.c (Cp.l (Leaf.o 2 (nN (opI s))))),(12,iv IntKind.i64 (tot (opI s) (nN (opI s)))),(6,SV.c (Cp.l (Leaf.p 0 0))),(9,SV.c (Cp.l (Leaf.o 1 (nN (opI s))))),(10,SV.c (Cp.l (Leaf.o 2 (nN (opI s))))),(11,iv IntKind.i64 0)] [(0,some (Blk.mk [Leaf.v (Value.string (opR s)),li (Nat.cast ((ot2 s).fst):Int),lb false] (BT.t 174))),(1,some (Blk.mk (ens (ents (opI s) (nN (opI s)))) (BT.r 123 8 1))),(2,some (Blk.mk (szs (opI s) (nN (opI s))) (BT.r 3 1 2)))] 3 87 [2,1,0] 0) fun K=>K (Exit.exit 4) (I15b s (nN (opI s))))∧Le (SV.tup [Cp.l (Leaf.p 0 0),Cp.l (li 0)]) (SV.tup [Cp.l (Leaf.p 0 0),Cp.l (li 0)])∧BkR (rnId 0 0 [3,1]) (Blk.mk [Leaf.o 1 (nN (opI s)),li 0] (BT.t 125)) (Blk.mk [Leaf.o 1 (nN (opI s)),li 0] (BT.t 125))∧BkR (rnId 0 0 [3,1]) (Blk.mk (ens (mixE s (nN (opI s)))) (BT.r 123 8 1)) (Blk.mk (ens (openL s)) (BT.r 123 8 1))∧True)))))) (by kernel_rfl)
 repeat' (first|exact trivial|with_reducible apply And.intro|(with_reducible apply HB.mk)|with_reducible intro _)
 all_goals first
  |(with_reducible exact Le.refl _)
  |((with_reducible exact op7 _ hi _))
  |((with_reducible exact op1 s hs _))
  |((with_reducible exact C58 _ _))
  |((with_reducible exact op2 s hr _ _))
  |((with_reducible exact op3 s hr _ _))
  |((with_reducible exact op4 s _ _))
  |((with_reducible exact C62g _ hi hp _))
  |((with_reducible exact op5 s _ hr _ _))
  |(exact LoopOK.mk (I15a s 0) rfl (by kernel_rfl) (wkE_cons (LeN.sl (by kernel_rfl) rfl) (wkE_cons (LeN.sl (by kernel_rfl) rfl) (wkE_cons (LeN.sl (by kernel_rfl) rfl) (wkE_cons (LeN.sl (by kernel_rfl) rfl) (wkE_cons (LeN.sl (by kernel_rfl) rfl) (wkE_cons (LeN.sl (by kernel_rfl) rfl) (wkE_cons (LeN.sl (by kernel_rfl) rfl) (wkE_cons (LeN.sl (by kernel_rfl) rfl) trivial)))))))) (wkH_cons (BkN.blk (k:=⟨[.v (.string (opR s)),.v (.int .i64 ((ot2 s).1:Nat)),.v (.bool (ot2 s).2)],.t 174⟩) (by kernel_rfl) (by rw[show (ot2 s).2=false from (by with_reducible assumption)]) (by kernel_rfl)) (wkH_cons (BkN.plain (cs:=ens (ents (opI s) (nN (opI s)))) (b:=.r 123 8 1) (by kernel_rfl) (rfl) (plain_ens _) (by kernel_rfl)) (wkH_cons (BkN.plain (cs:=szs (opI s) (nN (opI s))) (b:=.r 3 1 2) (by kernel_rfl) (rfl) (plain_szs _ _) (by kernel_rfl)) trivial))) (fun K hT=>L15a s hok hn _ 0 rfl (Nat.zero_le _) K hT))
  |(exact LoopOK.mk (I15b s 0) rfl (by kernel_rfl) (wkE_cons (LeN.sl (by kernel_rfl) rfl) (wkE_cons (LeN.sl (by kernel_rfl) rfl) (wkE_cons (LeN.sl (by kernel_rfl) rfl) (wkE_cons (LeN.sl (by kernel_rfl) rfl) (wkE_cons (LeN.sl (by kernel_rfl) rfl) trivial))))) (wkH_cons (BkN.blk (k:=⟨[.v (.string (opR s)),.v (.int .i64 ((ot2 s).1:Nat)),.v (.bool false)],.t 174⟩) (by kernel_rfl) (rfl) (by kernel_rfl)) (wkH_cons (BkN.plain (cs:=ens (ents (opI s) (nN (opI s)))) (b:=.r 123 8 1) (by kernel_rfl) (by rw[mixE_zero]) (plain_ens _) (by kernel_rfl)) (wkH_cons (BkN.plain (cs:=szs (opI s) (nN (opI s))) (b:=.r 3 1 2) (by kernel_rfl) (rfl) (plain_szs _ _) (by kernel_rfl)) trivial))) (fun K hT=>L15b s hr hp (le_of_left (by with_reducible assumption) (by with_reducible assumption)) _ 0 rfl (Nat.zero_le _) K hT))
  |((refine Le.int ?_;rw[IntKind.wrap_i64];have:=sumI_bd (opI s);omega))
  |(exact Le.bool (opNe_eq s))
  |(exact BkR.plain (by rw[mixE_all]) (plain_ens _) (by kernel_rfl))
  |((exfalso;simp_all [openE];done))
  |(exact Le.of rfl)
  |(exact BkR.of rfl)
theorem open_ok (s:ByteArray) (hs:s.size≤1000000000000000000) (he:openE s=0) (n:Nat):CallOK Tryz.prog 15 [.c (.l (.v (.string s)))] [] n (.tup [.l (.p n 0),.l (li 0)]) [(n,⟨[.o (n+1) (openL s).length,li 0],.t 125⟩),(n+1,⟨ens (openL s),.r 123 8 (n+1)⟩)] 2:=by
 have key:=CallOKd.off (C15k s hs he) n
 simp only[List.map_cons,List.map_nil,Blk.ren,SV.ren,Cp.ren,Leaf.ren,BT.ren,ren_plain (plain_ens _),Nat.add_zero] at key
 rw[openL_len]
 exact key
end Ab
end Go.Proofs.YtpdckpifhniioaaGreat
end
