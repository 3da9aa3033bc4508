/- Part 14 of what CodecBack rests on. -/
import Derived.Test.YtpdckpifhniioaaGreatPm
section
set_option linter.unusedVariables false
set_option linter.unusedSimpArgs false
namespace Go.Proofs.YtpdckpifhniioaaGreat
open Go.RowKit
namespace Ab
def W110 (S:St) (i:Nat):Blk:=match S.blk i with|some ⟨[_,x],t⟩=>⟨[.p i 0,x],t⟩|_=>⟨[],.t 0⟩
theorem enters47:Enters Tryz.prog 47:=fun args w=>by go_simp
def cz_C47a:Cz:={
 ct:=(fun f=>match f with
 |110=>some fun _ _S ar=>match ar with | [.c (.l (.p i 0))]=>some {v:=.tup [],rd:=[i],wr:=[(i,W110 _S i)],nw:=0}|_=>none
 |_=>none)
 eq:=(fun t=>match t with
 |_=>none)
 raw:=[],sym:=[],nf:=[],ap:=true,off:=[],on:=[],lp:=fun _=>none,un:=0}
set_option maxRecDepth 100000 in
set_option maxHeartbeats 400000 in
theorem C47a (s:ByteArray) (hs:s.size≤1000000000) (h0:0<s.size):CallOK Tryz.prog 47 [.c (.l (.p 0 0)),.c (.l (.v (.string s)))] [(0,⟨[.v (.pointer none),.v (.slice none 0 0)],.e 101⟩)] 1 (.tup [.l (li s.size),.l (.v .nilIface)]) [(0,⟨[.p 0 0,.o 1 s.size],.e 101⟩),(1,⟨sbytes s,.r 5 1 1⟩)] 1:=by
 refine call_ok (cx:=cz_C47a) (nm:=[1]) rfl Tryz.func47 (body:=Tryz.f47.body.getD .skip) rfl enters47 (by kernel_rfl) ?_
 apply of_eq (q:=CallOKd Tryz.prog 110 [] [SV.c (Cp.l (Leaf.p 0 0))] [(0,Blk.mk [Leaf.v (Value.pointer none),Leaf.v (Value.slice none 0 0)] (BT.e 101))] 1 (SV.tup []) [(0,Blk.mk [Leaf.p 0 0,Leaf.v (Value.slice none 0 0)] (BT.e 101))] 0∧0<s.size∧ApB Tryz.prog 5 s.size∧Le (SV.tup [Cp.l (li (Nat.cast s.size:Int)),Cp.l (Leaf.v Value.nilIface)]) (SV.tup [Cp.l (li (Nat.cast s.size:Int)),Cp.l (Leaf.v Value.nilIface)])∧BkR (rnId 1 0 [1]) (Blk.mk [Leaf.p 0 0,Leaf.o 1 s.size] (BT.e 101)) (Blk.mk [Leaf.p 0 0,Leaf.o 1 s.size] (BT.e 101))∧BkR (rnId 1 0 [1]) (Blk.mk (sbytes s) (BT.r 5 1 1)) (Blk.mk (sbytes s) (BT.r 5 1 1))∧True) (by kernel_rfl)
 repeat' (first|exact trivial|with_reducible apply And.intro|(with_reducible apply HB.mk)|with_reducible intro _)
 all_goals first
  |(assumption)
  |(with_reducible exact Le.refl _)
  |(((with_reducible first|exact C110u _ _ _|exact C110f _ _ _)))
  |(exact apB (bytes:=1) (by kernel_rfl) (by omega))
  |(exact BkR.plain rfl (plain_sbytes s) (by kernel_rfl))
  |(exact BkR.of (by kernel_rfl))
def cz_C47t:Cz:={
 ct:=(fun f=>match f with
 |110=>some fun _ _S ar=>match ar with | [.c (.l (.p i 0))]=>some {v:=.tup [],rd:=[i],wr:=[(i,W110 _S i)],nw:=0}|_=>none
 |_=>none)
 eq:=(fun t=>match t with
 |_=>none)
 raw:=[],sym:=[14],nf:=[],ap:=true,off:=[],on:=[],lp:=fun _=>none,un:=0}
set_option maxRecDepth 100000 in
set_option maxHeartbeats 400000 in
theorem C47t (s:ByteArray) (m:Nat) (cs:List Leaf) (hs:s.size≤1000000000) (hm:m≤1000000000) (hc:cs.length=m) (hp:Plain cs):CallOKd Tryz.prog 47 [(1,m+s.size,true)] [.c (.l (.p 0 0)),.c (.l (.v (.string s)))] [(0,⟨[.p 0 0,.o 1 m],.e 101⟩),(1,⟨cs,.r 5 1 1⟩)] 2 (.tup [.l (li s.size),.l (.v .nilIface)]) [(0,⟨[.p 0 0,.o 1 (m+s.size)],.e 101⟩),(1,⟨cs++sbytes s,.r 5 1 1⟩)] 0:=by
 refine call_okW (D:=[(1,m+s.size,true)]) (nm:=[]) Tryz.func47 (body:=Tryz.f47.body.getD .skip) rfl enters47 (by unfold inck;simp only[List.all_cons,List.all_nil,blkLt_plain hp (show (BT.rn (rnId 2 0 []) (.r 5 1 1)).isSome=true from rfl),Bool.and_true,Bool.true_and];kernel_rfl) (by kernel_rfl) (evD_sound (cx:=cz_C47t) (rb:=fun r=>match r with|2=>some [true]|_=>none) rfl _ _ _ ?_)
 apply of_eq (q:=CallOKd Tryz.prog 110 [] [SV.c (Cp.l (Leaf.p 0 0))] [(0,Blk.mk [Leaf.p 0 0,Leaf.o 1 m] (BT.e 101))] 2 (SV.tup []) [(0,Blk.mk [Leaf.p 0 0,Leaf.o 1 m] (BT.e 101))] 0∧[(1,m+s.size,true)]=[(1,m+s.size,true)]∧(Blk.mk cs (BT.r 5 1 1)).cs.length=m*1∧Le (SV.tup [Cp.l (li (Nat.cast s.size:Int)),Cp.l (Leaf.v Value.nilIface)]) (SV.tup [Cp.l (li (Nat.cast s.size:Int)),Cp.l (Leaf.v Value.nilIface)])∧BkR (rnId 2 0 []) (Blk.mk [Leaf.p 0 0,Leaf.o 1 (m+s.size)] (BT.e 101)) (Blk.mk [Leaf.p 0 0,Leaf.o 1 (m+s.size)] (BT.e 101))∧BkR (rnId 2 0 []) (Blk.mk ((Blk.mk cs (BT.r 5 1 1)).cs++sbytes s) (BT.r 5 1 1)) (Blk.mk (cs++sbytes s) (BT.r 5 1 1))∧True) (by kernel_rfl)
 repeat' (first|exact trivial|with_reducible apply And.intro|(with_reducible apply HB.mk)|with_reducible intro _)
 all_goals first
  |(with_reducible exact Le.refl _)
  |(((with_reducible first|exact C110u _ _ _|exact C110f _ _ _)))
  |(exact BkR.plain rfl (hp.append (plain_sbytes s)) (by kernel_rfl))
  |(exact BkR.of (by kernel_rfl))
  |(simp only[*,Bool.and_self,Bool.not_false,Bool.not_true];done)
  |(simp_all [wants];done)
def cz_C47f:Cz:={
 ct:=(fun f=>match f with
 |110=>some fun _ _S ar=>match ar with | [.c (.l (.p i 0))]=>some {v:=.tup [],rd:=[i],wr:=[(i,W110 _S i)],nw:=0}|_=>none
 |_=>none)
 eq:=(fun t=>match t with
 |_=>none)
 raw:=[],sym:=[14],nf:=[],ap:=true,off:=[],on:=[],lp:=fun _=>none,un:=0}
set_option maxRecDepth 100000 in
set_option maxHeartbeats 400000 in
theorem C47f (s:ByteArray) (m:Nat) (cs:List Leaf) (hs:s.size≤1000000000) (hm:m≤1000000000) (hc:cs.length=m) (hp:Plain cs):CallOKd Tryz.prog 47 [(1,m+s.size,false)] [.c (.l (.p 0 0)),.c (.l (.v (.string s)))] [(0,⟨[.p 0 0,.o 1 m],.e 101⟩),(1,⟨cs,.r 5 1 1⟩)] 2 (.tup [.l (li s.size),.l (.v .nilIface)]) [(0,⟨[.p 0 0,.o 2 (m+s.size)],.e 101⟩),(2,⟨cs++sbytes s,.r 5 1 2⟩)] 1:=by
 refine call_okW (D:=[(1,m+s.size,false)]) (nm:=[2]) Tryz.func47 (body:=Tryz.f47.body.getD .skip) rfl enters47 (by unfold inck;simp only[List.all_cons,List.all_nil,blkLt_plain hp (show (BT.rn (rnId 2 0 []) (.r 5 1 1)).isSome=true from rfl),Bool.and_true,Bool.true_and];kernel_rfl) (by kernel_rfl) (evD_sound (cx:=cz_C47f) (rb:=fun r=>match r with|2=>some [false]|_=>none) rfl _ _ _ ?_)
 apply of_eq (q:=CallOKd Tryz.prog 110 [] [SV.c (Cp.l (Leaf.p 0 0))] [(0,Blk.mk [Leaf.p 0 0,Leaf.o 1 m] (BT.e 101))] 2 (SV.tup []) [(0,Blk.mk [Leaf.p 0 0,Leaf.o 1 m] (BT.e 101))] 0∧[(1,m+s.size,false)]=[(1,m+s.size,false)]∧[(1,m+s.size,false)]=[(1,m+s.size,false)]∧ApB Tryz.prog 5 (m+s.size)∧(Blk.mk cs (BT.r 5 1 1)).cs.length=m*1∧Le (SV.tup [Cp.l (li (Nat.cast s.size:Int)),Cp.l (Leaf.v Value.nilIface)]) (SV.tup [Cp.l (li (Nat.cast s.size:Int)),Cp.l (Leaf.v Value.nilIface)])∧BkR (rnId 2 0 [2]) (Blk.mk [Leaf.p 0 0,Leaf.o 2 (m+s.size)] (BT.e 101)) (Blk.mk [Leaf.p 0 0,Leaf.o 2 (m+s.size)] (BT.e 101))∧BkR (rnId 2 0 [2]) (Blk.mk ((Blk.mk cs (BT.r 5 1 1)).cs++sbytes s) (BT.r 5 1 2)) (Blk.mk (cs++sbytes s) (BT.r 5 1 2))∧True) (by kernel_rfl)
 repeat' (first|exact trivial|with_reducible apply And.intro|(with_reducible apply HB.mk)|with_reducible intro _)
 all_goals first
  |(with_reducible exact Le.refl _)
  |(((with_reducible first|exact C110u _ _ _|exact C110f _ _ _)))
  |(exact apB (bytes:=1) (by kernel_rfl) (by omega))
  |(exact BkR.plain rfl (hp.append (plain_sbytes s)) (by kernel_rfl))
  |(exact BkR.of (by kernel_rfl))
  |(simp only[*,Bool.and_self,Bool.not_false,Bool.not_true];done)
  |(simp_all [wants];done)
end Ab
end Go.Proofs.YtpdckpifhniioaaGreat
end
