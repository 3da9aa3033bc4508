/- Part 29 of what CodecBack rests on. -/
import Derived.WalkKit
import Derived.ProofKit
import Derived.OpenShut
import Derived.SliceStrings
import Derived.SizedLaws
import Derived.Test.YtpdckpifhniioaaGreatPzb
section
set_option linter.unusedVariables false
set_option linter.unusedSimpArgs false
namespace Go.Proofs.YtpdckpifhniioaaGreat
open Go.RowKit
namespace Ab
attribute [local irreducible] CallOKd
attribute [local irreducible] tl rws mdL packB
def LM (s:List Int):List EN:=(mdL s (mdN s)).map enO
theorem made_len4 (s:List Int):(mdL s (mdN s)).length≤1024:=Nat.le_trans (made_len s) (by decide)
theorem LM_len (s:List Int):(LM s).length=(mdL s (mdN s)).length:=mapO_len _
theorem LM_len4 (s:List Int):(LM s).length≤1024:=by rw[LM_len];exact made_len4 s
theorem LM_B (s:List Int):GoodB (LM s):=goodB_of (made_good s)
theorem open_LM (s:List Int) (n:Nat):CallOK Tryz.prog 15 [.c (.l (.v (.string (packB (mdL s (mdN s))))))] [] n (.tup [.l (.p n 0),.l (li 0)]) [(n,⟨[.o (n+1) (LM s).length,li 0],.t 125⟩),(n+1,⟨ens (LM s),.r 123 8 (n+1)⟩)] 2:=open_pk (made_good s) (made_len4 s) n
def rdC (s:List Int) (q0 q1 q2 q3:Int) (k:Nat):Int:=smC (LM s) (wR (smR q0 q1 q2 q3)) k
def rdL (s:List Int) (q0 q1 q2 q3:Int):List TA:=crL (smR q0 q1 q2 q3) (kept (mdL s (mdN s)) (wR (smR q0 q1 q2 q3)) (mdL s (mdN s)).length) (kept (mdL s (mdN s)) (wR (smR q0 q1 q2 q3)) (mdL s (mdN s)).length).length
def tzB (s:List Int) (x y:Int):Bool:=sameT (rT (mdL s (mdN s)) x y) zT
def tdC (s:List Int) (x y:Int):Int:=bif tzB s x y then 0 else 1
theorem rdC_bd (s:List Int) (q0 q1 q2 q3:Int) (k:Nat):0≤rdC s q0 q1 q2 q3 k∧rdC s q0 q1 q2 q3 k≤k:=smC_bd _ _ k
theorem tile_LM (s:List Int) (x y d:Int) (h0:0≤d) (hd:d≤1000000000) (id i n:Nat) (h1:id<n) (h2:i<n) (h3:id≠i):CallOK Tryz.prog 22 [.c (.l (.p id 0)),ag [li x,li y]] [(id,⟨[.o i (LM s).length,li d],.t 125⟩),(i,⟨ens (LM s),.r 123 8 i⟩)] n (.tup [.agg (tl (rT (mdL s (mdN s)) x y)),.l (li 0)]) [(id,⟨[.o i (LM s).length,li (d+tdC s x y)],.t 125⟩)] 0:=by
 have h:=tile_any (LM s) x y d (LM_B s) h0 hd id i n h1 h2 h3
 rw[show tl (tlT (LM s) x y)=tl (rT (mdL s (mdN s)) x y) from tlT_map (made_good s) x y,show tlE (LM s) x y=0 from tlE_map (made_good s) x y,show tlC (LM s) x y=tdC s x y from tlC_map (made_good s) x y] at h
 exact h
theorem rst9 (x:Int):0≤rst x 9∧rst x 9<9:=by
 have:=rest_bd (x:=x) (n:=9) (by decide) (by decide)
 exact ⟨this.1,this.2.1⟩
theorem rst4 (x:Int):0≤rst x 4∧rst x 4<4:=by
 have:=rest_bd (x:=x) (n:=4) (by decide) (by decide)
 exact ⟨this.1,this.2.1⟩
def V19 (S:St) (i:Nat):SV:=match S.blk i with|some ⟨[_,.v (.int _ d)],_⟩=>iv .i64 d|_=>.u
def allC (s:List Int):Int:=smC (LM s) wAll (LM s).length
theorem rdL_crop (s:List Int) (q0 q1 q2 q3:Int):rdL s q0 q1 q2 q3=crL (smR q0 q1 q2 q3) (mdL s (mdN s)) (mdL s (mdN s)).length:=crL_kept _ _ _ (Nat.le_refl _)
theorem rdL_good (s:List Int) (q0 q1 q2 q3:Int):Good (rdL s q0 q1 q2 q3):=by
 rw[rdL_crop];exact crL_good (made_good s) _ _ (Nat.le_refl _)
theorem crop_LM (s:List Int) (q0 q1 q2 q3:Int) (id n:Nat) (hi:id<n):CallOK Tryz.prog 32 [.c (.agg [.o id (mdL s (mdN s)).length]),ag [li (smR q0 q1 q2 q3).x0,li (smR q0 q1 q2 q3).y0,li (smR q0 q1 q2 q3).x1,li (smR q0 q1 q2 q3).y1]] [(id,⟨rws (mdL s (mdN s)),.r 42 258 id⟩)] n (.c (.agg [.o n (rdL s q0 q1 q2 q3).length])) [(n,⟨rws (rdL s q0 q1 q2 q3),.r 42 258 n⟩)] 1:=by
 rw[rdL_crop];exact crop_any _ _ (made_good s) id n hi
theorem allC_bd (s:List Int):0≤allC s∧allC s≤1024:=by
 have:=smC_bd (LM s) wAll (LM s).length
 have:=LM_len4 s
 unfold allC
 omega
theorem all_LM (s:List Int) (id i n:Nat) (h1:id<n) (h2:i<n) (h3:id≠i):CallOK Tryz.prog 23 [.c (.l (.p id 0))] [(id,⟨[.o i (LM s).length,li 0],.t 125⟩),(i,⟨ens (LM s),.r 123 8 i⟩)] n (.tup [.agg [.o n (mdL s (mdN s)).length],.l (li 0)]) [(id,⟨[.o i (LM s).length,li (allC s)],.t 125⟩),(n,⟨rws (mdL s (mdN s)),.r 42 258 n⟩)] 1:=by
 have h:=all_ok (LM s) 0 (LM_B s) (by decide) (by decide) (smF_back (made_good s) wAll) id i n h1 h2 h3
 have hm:=sm_rws (made_good s) wAll (LM s).length (by rw[LM_len];exact Nat.le_refl _)
 rw[kept_all _ _ (by rw[LM_len];exact Nat.le_refl _),LM_len,List.take_length] at hm
 rw[show smL (LM s) wAll (LM s).length=smL ((mdL s (mdN s)).map enO) wAll (mdL s (mdN s)).length by rw[LM_len];rfl,hm.1,hm.2,Int.zero_add] at h
 exact h
theorem read_LMd (s:List Int) (q0 q1 q2 q3:Int) (d:Int) (h0:0≤d) (hd:d≤900000000) (id i n:Nat) (h1:id<n) (h2:i<n) (h3:id≠i):CallOK Tryz.prog 24 [.c (.l (.p id 0)),ag [li (smR q0 q1 q2 q3).x0,li (smR q0 q1 q2 q3).y0,li (smR q0 q1 q2 q3).x1,li (smR q0 q1 q2 q3).y1]] [(id,⟨[.o i (LM s).length,li d],.t 125⟩),(i,⟨ens (LM s),.r 123 8 i⟩)] n (.tup [.agg [.o n (rdL s q0 q1 q2 q3).length],.l (li 0)]) [(id,⟨[.o i (LM s).length,li (d+rdC s q0 q1 q2 q3 (LM s).length)],.t 125⟩),(n,⟨rws (rdL s q0 q1 q2 q3),.r 42 258 n⟩)] 1:=read_pk (smR q0 q1 q2 q3) (mdL s (mdN s)) d (made_good s) h0 hd id i n h1 h2 h3
theorem same_self (t:Nat→UInt8):sameT (lsB (tl t)) (lsB (tl t))=true:=by rw[same_lsB];exact (sameT_iff _ _).2 fun _ _=>rfl
attribute [local irreducible] LM rdC rdL tzB tdC allC
theorem equal_M (s:List Int) (i j n:Nat) (h1:i<n) (h2:j<n) (h3:i≠j):CallOK Tryz.prog 31 [.c (.agg [.o i (mdL s (mdN s)).length]),.c (.agg [.o j (mdL s (mdN s)).length])] [(i,⟨rws (mdL s (mdN s)),.r 42 258 i⟩),(j,⟨rws (mdL s (mdN s)),.r 42 258 j⟩)] n (bv true) [] 0:=by
 have h:=equal_any _ _ (made_good s) (made_good s) i j n h1 h2 h3
 rw[eqRs_refl] at h;exact h
theorem equal_R (s:List Int) (q0 q1 q2 q3:Int) (i j n:Nat) (h1:i<n) (h2:j<n) (h3:i≠j):CallOK Tryz.prog 31 [.c (.agg [.o i (rdL s q0 q1 q2 q3).length]),.c (.agg [.o j (rdL s q0 q1 q2 q3).length])] [(i,⟨rws (rdL s q0 q1 q2 q3),.r 42 258 i⟩),(j,⟨rws (rdL s q0 q1 q2 q3),.r 42 258 j⟩)] n (bv true) [] 0:=by
 have h:=equal_any _ _ (rdL_good s q0 q1 q2 q3) (rdL_good s q0 q1 q2 q3) i j n h1 h2 h3
 rw[eqRs_refl] at h;exact h
theorem enters8:Enters Tryz.prog 8:=fun args w=>by go_simp
def cz_W8 (x:Leaf) (p:Nat) (s:List Int) (q0 q1 q2 q3:Int):Cz:={
 ct:=(fun f=>match f with
 |10=>some fun _ _S ar=>match ar with | []=>some {v:=bv true,rd:=[],wr:=[],nw:=0}|_=>none
 |11=>some fun _ _S ar=>match ar with | [.c (.l _)]=>some {v:=.c (.agg [.o _S.n (mdL s (mdN s)).length]),rd:=[0],wr:=[(_S.n,⟨rws (mdL s (mdN s)),.r 42 258 _S.n⟩)],nw:=1}|_=>none
 |12=>some fun _ _S ar=>match ar with | [.c (.agg [.o i _])]=>some {v:=.tup [.l (.v (.string (packB (mdL s (mdN s))))),.l (li 0)],rd:=[i],wr:=[],nw:=0}|_=>none
 |14=>some fun _ _S ar=>match ar with | [.c (.l (.v (.int _ x))),.c (.l (.v (.int _ n)))]=>some {v:=iv .i64 (rst x n),rd:=[],wr:=[],nw:=0}|_=>none
 |15=>some fun _ _S ar=>match ar with | [.c (.l (.v (.string q)))]=>some {v:=.tup [.l (.p _S.n 0),.l (li 0)],rd:=[],wr:=[(_S.n,⟨[.o (_S.n+1) (LM s).length,li 0],.t 125⟩),(_S.n+1,⟨ens (LM s),.r 123 8 (_S.n+1)⟩)],nw:=2}|_=>none
 |18=>some fun _ _S ar=>match ar with | [.c (.agg [.o i _]),.c (.agg [.v (.int _ X),.v (.int _ Y)])]=>some {v:=.c (.agg (tl (rT (mdL s (mdN s)) X Y))),rd:=[i],wr:=[],nw:=0}|_=>none
 |22=>some fun _ _S ar=>match ar with | [.c (.l (.p i _)),.c (.agg [.v (.int _ X),.v (.int _ Y)])]=>some {v:=.tup [.agg (tl (rT (mdL s (mdN s)) X Y)),.l (li 0)],rd:=[i,i+1],wr:=[(i,⟨[.o (i+1) (LM s).length,li ((allC s+rdC s q0 q1 q2 q3 (LM s).length)+tdC s X Y)],.t 125⟩)],nw:=0}|_=>none
 |23=>some fun _ _S ar=>match ar with | [.c (.l (.p i _))]=>some {v:=.tup [.agg [.o _S.n (mdL s (mdN s)).length],.l (li 0)],rd:=[i,i+1],wr:=[(i,⟨[.o (i+1) (LM s).length,li (allC s)],.t 125⟩),(_S.n,⟨rws (mdL s (mdN s)),.r 42 258 _S.n⟩)],nw:=1}|_=>none
 |24=>some fun _ _S ar=>match ar with | [.c (.l (.p i _)),_]=>some {v:=.tup [.agg [.o _S.n (rdL s q0 q1 q2 q3).length],.l (li 0)],rd:=[i,i+1],wr:=[(i,⟨[.o (i+1) (LM s).length,li (allC s+rdC s q0 q1 q2 q3 (LM s).length)],.t 125⟩),(_S.n,⟨rws (rdL s q0 q1 q2 q3),.r 42 258 _S.n⟩)],nw:=1}|_=>none
 |27=>some fun _ _S ar=>match ar with | [.c (.agg [.v (.int _ q0),.v (.int _ q1),.v (.int _ q2),.v (.int _ q3)])]=>some {v:=ag [li (smR q0 q1 q2 q3).x0,li (smR q0 q1 q2 q3).y0,li (smR q0 q1 q2 q3).x1,li (smR q0 q1 q2 q3).y1],rd:=[],wr:=[],nw:=0}|_=>none
 |31=>some fun _ _S ar=>match ar with | [.c (.agg [.o i _]),.c (.agg [.o j _])]=>some {v:=bv true,rd:=[i,j],wr:=[],nw:=0}|_=>none
 |32=>some fun _ _S ar=>match ar with | [.c (.agg [.o i _]),_]=>some {v:=.c (.agg [.o _S.n (rdL s q0 q1 q2 q3).length]),rd:=[i],wr:=[(_S.n,⟨rws (rdL s q0 q1 q2 q3),.r 42 258 _S.n⟩)],nw:=1}|_=>none
 |33=>some fun _ _S ar=>match ar with | [_]=>some {v:=iv .i64 0,rd:=[],wr:=[],nw:=0}|_=>none
 |_=>none)
 eq:=(fun t=>match t with
 |38=>some (fun xs ys=>sameT (lsB xs) (lsB ys))
 |_=>none)
 raw:=[],sym:=[],nf:=[(95,.c (.agg (tl (rT (mdL s (mdN s)) (rst q0 9-3) (rst q1 4))))),(98,.c (.agg (tl (rT (mdL s (mdN s)) (rst q0 9-3) (rst q1 4))))),(99,bv true)],ap:=true,off:=[],on:=[91],lp:=fun _=>none,un:=0,wh:=[26,66,40,38,69]}
set_option maxRecDepth 100000 in
set_option maxHeartbeats 400000 in
theorem W8 (x:Leaf) (p:Nat) (s:List Int) (q0 q1 q2 q3:Int) (hx:IntsAt x p s):CallOK Tryz.prog 8 [.c (.l x),ag [li q0,li q1,li q2,li q3]] [(0,⟨qls p s,.q⟩)] 1 (bv true) [] 0:=by
 have hlen:=LM_len4 s
 have hcb:=rdC_bd s q0 q1 q2 q3 (LM s).length
 have hac:=allC_bd s
 refine call_ok (cx:=cz_W8 x p s q0 q1 q2 q3) (nm:=[]) rfl Tryz.func8 (body:=Tryz.f8.body.getD .skip) rfl enters8 (by unfold inck;simp only[List.all_cons,List.all_nil,hx.lt,blkLt_fix (fix_qls p s) (show (BT.rn (rnId 1 0 []) (.q)).isSome=true from rfl),Bool.and_true,Bool.true_and];kernel_rfl) ?_
 apply of_eq (q:=CallOKd Tryz.prog 10 [] [] [] 2 (bv true) [] 0∧CallOKd Tryz.prog 11 [] [SV.c (Cp.l x)] [(0,Blk.mk (qls p s) BT.q)] 2 (ag [Leaf.o 2 (mdL s (mdN s)).length]) [(2,Blk.mk (rws (mdL s (mdN s))) (BT.r 42 258 2))] 1∧0=0∧1=1∧CallOKd Tryz.prog 12 [] [ag [Leaf.o 2 (mdL s (mdN s)).length]] [(2,Blk.mk (rws (mdL s (mdN s))) (BT.r 42 258 2))] 4 (SV.tup [Cp.l (Leaf.v (Value.string (packB (mdL s (mdN s))))),Cp.l (li 0)]) [] 0∧CallOKd Tryz.prog 15 [] [SV.c (Cp.l (Leaf.v (Value.string (packB (mdL s (mdN s))))))] [] 4 (SV.tup [Cp.l (Leaf.p 4 0),Cp.l (li 0)]) [(4,Blk.mk [Leaf.o 5 (LM s).length,li 0] (BT.t 125)),(5,Blk.mk (ens (LM s)) (BT.r 123 8 5))] 2∧((!0 != 0)=true→(!0 != 0)=true∧True)∧((0 != 0)=false→(!0 != 0)=true)∧((!bif 0 != 0 then true else 0 != 0)=true→(!bif 0 != 0 then true else 0 != 0)=true∧True)∧((bif 0 != 0 then true else 0 != 0)=false→(!bif 0 != 0 then true else 0 != 0)=true)∧CallOKd Tryz.prog 27 [] [ag [li q0,li q1,li q2,li q3]] [] 6 (ag [li (smR q0 q1 q2 q3).x0,li (smR q0 q1 q2 q3).y0,li (smR q0 q1 q2 q3).x1,li (smR q0 q1 q2 q3).y1]) [] 0∧0=0∧4=4∧CallOKd Tryz.prog 14 [] [iv IntKind.i64 q0,iv IntKind.i64 9] [] 7 (iv IntKind.i64 (rst q0 9)) [] 0∧IntKind.i64.wrap (rst q0 9-3)=rst q0 9-3∧CallOKd Tryz.prog 14 [] [iv IntKind.i64 q1,iv IntKind.i64 4] [] 7 (iv IntKind.i64 (rst q1 4)) [] 0∧0=0∧2=2∧CallOKd Tryz.prog 23 [] [SV.c (Cp.l (Leaf.p 4 0))] [(4,Blk.mk [Leaf.o 5 (LM s).length,li 0] (BT.t 125)),(5,Blk.mk (ens (LM s)) (BT.r 123 8 5))] 8 (SV.tup [Cp.agg [Leaf.o 8 (mdL s (mdN s)).length],Cp.l (li 0)]) [(4,Blk.mk [Leaf.o 5 (LM s).length,li (allC s)] (BT.t 125)),(8,Blk.mk (rws (mdL s (mdN s))) (BT.r 42 258 8))] 1∧0=0∧1=1∧CallOKd Tryz.prog 24 [] [SV.c (Cp.l (Leaf.p 4 0)),ag [li (smR q0 q1 q2 q3).x0,li (smR q0 q1 q2 q3).y0,li (smR q0 q1 q2 q3).x1,li (smR q0 q1 q2 q3).y1]] [(4,Blk.mk [Leaf.o 5 (LM s).length,li (allC s)] (BT.t 125)),(5,Blk.mk (ens (LM s)) (BT.r 123 8 5))] 10 (SV.tup [Cp.agg [Leaf.o 10 (rdL s q0 q1 q2 q3).length],Cp.l (li 0)]) [(4,Blk.mk [Leaf.o 5 (LM s).length,li (allC s+rdC s q0 q1 q2 q3 (LM s).length)] (BT.t 125)),(10,Blk.mk (rws (rdL s q0 q1 q2 q3)) (BT.r 42 258 10))] 1∧0=0∧1=1∧CallOKd Tryz.prog 22 [] [SV.c (Cp.l (Leaf.p 4 0)),ag [li (rst q0 9-3),li (rst q1 4)]] [(4,Blk.mk [Leaf.o 5 (LM s).length,li (allC s+rdC s q0 q1 q2 q3 (LM s).length)] (BT.t 125)),(5,Blk.mk (ens (LM s)) (BT.r 123 8 5))] 12 (SV.tup [Cp.agg (tl (rT (mdL s (mdN s)) (rst q0 9-3) (rst q1 4))),Cp.l (li 0)]) [(4,Blk.mk [Leaf.o 5 (LM s).length,li (allC s+rdC s q0 q1 q2 q3 (LM s).length+tdC s (rst q0 9-3) (rst q1 4))] (BT.t 125))] 0∧0=0∧256=256∧(true=true→true=true∧True)∧(true=true→true=true)∧((bif true then 0==0 else false)=true→(bif true then 0==0 else false)=true∧True)∧((bif true then 0==0 else false)=true→(bif true then 0==0 else false)=true)∧((bif bif true then 0==0 else false then 0==0 else false)=true→(bif bif true then 0==0 else false then 0==0 else false)=true∧True)∧((bif bif true then 0==0 else false then 0==0 else false)=true→(bif bif true then 0==0 else false then 0==0 else false)=true)∧((bif bif bif true then 0==0 else false then 0==0 else false then 0==0 else false)=true→(bif bif bif true then 0==0 else false then 0==0 else false then 0==0 else false)=true∧(bif bif bif true then 0==0 else false then 0==0 else false then 0==0 else false)=true∧CallOKd Tryz.prog 31 [] [ag [Leaf.o 8 (mdL s (mdN s)).length],ag [Leaf.o 2 (mdL s (mdN s)).length]] [(8,Blk.mk (rws (mdL s (mdN s))) (BT.r 42 258 8)),(2,Blk.mk (rws (mdL s (mdN s))) (BT.r 42 258 2))] 13 (bv true) [] 0∧True)∧((bif bif bif true then 0==0 else false then 0==0 else false then 0==0 else false)=true→(bif bif bif true then 0==0 else false then 0==0 else false then 0==0 else false)=true)∧(bif bif bif bif true then 0==0 else false then 0==0 else false then 0==0 else false then true else false)=true∧(bif bif bif bif true then 0==0 else false then 0==0 else false then 0==0 else false then true else false)=true∧(bif bif bif bif true then 0==0 else false then 0==0 else false then 0==0 else false then true else false)=true∧CallOKd Tryz.prog 32 [] [ag [Leaf.o 2 (mdL s (mdN s)).length],ag [li (smR q0 q1 q2 q3).x0,li (smR q0 q1 q2 q3).y0,li (smR q0 q1 q2 q3).x1,li (smR q0 q1 q2 q3).y1]] [(2,Blk.mk (rws (mdL s (mdN s))) (BT.r 42 258 2))] 13 (ag [Leaf.o 13 (rdL s q0 q1 q2 q3).length]) [(13,Blk.mk (rws (rdL s q0 q1 q2 q3)) (BT.r 42 258 13))] 1∧((bif bif bif bif true then 0==0 else false then 0==0 else false then 0==0 else false then true else false)=true→(bif bif bif bif true then 0==0 else false then 0==0 else false then 0==0 else false then true else false)=true∧CallOKd Tryz.prog 31 [] [ag [Leaf.o 10 (rdL s q0 q1 q2 q3).length],ag [Leaf.o 13 (rdL s q0 q1 q2 q3).length]] [(10,Blk.mk (rws (rdL s q0 q1 q2 q3)) (BT.r 42 258 10)),(13,Blk.mk (rws (rdL s q0 q1 q2 q3)) (BT.r 42 258 13))] 14 (bv true) [] 0∧True)∧((bif bif bif bif true then 0==0 else false then 0==0 else false then 0==0 else false then true else false)=true→(bif bif bif bif true then 0==0 else false then 0==0 else false then 0==0 else false then true else false)=true)∧((bif bif bif bif bif true then 0==0 else false then 0==0 else false then 0==0 else false then true else false then true else false)=true→Le (ag (List.take 256 (tl (rT (mdL s (mdN s)) (rst q0 9-3) (rst q1 4))))) (ag (tl (rT (mdL s (mdN s)) (rst q0 9-3) (rst q1 4))))∧True)∧((bif bif bif bif bif true then 0==0 else false then 0==0 else false then 0==0 else false then true else false then true else false)=true→(bif bif bif bif bif true then 0==0 else false then 0==0 else false then 0==0 else false then true else false then true else false)=true∧(bif bif bif bif bif true then 0==0 else false then 0==0 else false then 0==0 else false then true else false then true else false)=true∧CallOKd Tryz.prog 18 [] [ag [Leaf.o 2 (mdL s (mdN s)).length],ag [li (rst q0 9-3),li (rst q1 4)]] [(2,Blk.mk (rws (mdL s (mdN s))) (BT.r 42 258 2))] 14 (ag (tl (rT (mdL s (mdN s)) (rst q0 9-3) (rst q1 4)))) [] 0∧Le (ag (tl (rT (mdL s (mdN s)) (rst q0 9-3) (rst q1 4)))) (ag (tl (rT (mdL s (mdN s)) (rst q0 9-3) (rst q1 4))))∧True)∧((bif bif bif bif bif true then 0==0 else false then 0==0 else false then 0==0 else false then true else false then true else false)=true→(bif bif bif bif bif true then 0==0 else false then 0==0 else false then 0==0 else false then true else false then true else false)=true∧(bif bif bif bif bif true then 0==0 else false then 0==0 else false then 0==0 else false then true else false then true else false)=true∧EqOK Tryz.prog 38 (tl (rT (mdL s (mdN s)) (rst q0 9-3) (rst q1 4))) (tl (rT (mdL s (mdN s)) (rst q0 9-3) (rst q1 4))) (sameT (lsB (tl (rT (mdL s (mdN s)) (rst q0 9-3) (rst q1 4)))) (lsB (tl (rT (mdL s (mdN s)) (rst q0 9-3) (rst q1 4)))))∧Le (bv (sameT (lsB (tl (rT (mdL s (mdN s)) (rst q0 9-3) (rst q1 4)))) (lsB (tl (rT (mdL s (mdN s)) (rst q0 9-3) (rst q1 4)))))) (bv true)∧True)∧((bif bif bif bif bif true then 0==0 else false then 0==0 else false then 0==0 else false then true else false then true else false)=true→(bif bif bif bif bif true then 0==0 else false then 0==0 else false then 0==0 else false then true else false then true else false)=true)∧((bif bif bif bif bif bif true then 0==0 else false then 0==0 else false then 0==0 else false then true else false then true else false then true else false)=true→(bif bif bif bif bif bif true then 0==0 else false then 0==0 else false then 0==0 else false then true else false then true else false then true else false)=true∧CallOKd Tryz.prog 33 [] [SV.c (Cp.l (Leaf.v (Value.string (packB (mdL s (mdN s))))))] [] 14 (iv IntKind.i64 0) [] 0∧True)∧((bif bif bif bif bif bif true then 0==0 else false then 0==0 else false then 0==0 else false then true else false then true else false then true else false)=true→(bif bif bif bif bif bif true then 0==0 else false then 0==0 else false then 0==0 else false then true else false then true else false then true else false)=true∧True)∧((bif bif bif bif bif bif true then 0==0 else false then 0==0 else false then 0==0 else false then true else false then true else false then true else false)=true→(bif bif bif bif bif bif true then 0==0 else false then 0==0 else false then 0==0 else false then true else false then true else false then true else false)=true)∧Le (bv (bif bif bif bif bif bif bif true then 0==0 else false then 0==0 else false then 0==0 else false then true else false then true else false then true else false then 0==0 else false)) (bv true)∧True) (by kernel_rfl)
 repeat' (first|exact trivial|with_reducible apply And.intro|(with_reducible apply HB.mk)|with_reducible intro _)
 all_goals first
  |(with_reducible assumption)
  |(with_reducible exact Le.refl _)
  |(with_reducible rfl)
  |((with_reducible exact C10 _))
  |((exact made_any hx _ (by omega)))
  |((exact pack_any _ (made_good s) _ _ (by omega)))
  |(((with_reducible refine C14 _ _ ?_ ?_ _)<;>omega))
  |((with_reducible exact open_LM s _))
  |((exact rtile_any _ _ _ (made_len4 s) _ _ (by omega)))
  |(((with_reducible refine tile_LM s _ _ _ ?_ ?_ _ _ _ ?_ ?_ ?_)<;>omega))
  |(((with_reducible refine all_LM s _ _ _ ?_ ?_ ?_)<;>omega))
  |(((with_reducible refine read_LMd s q0 q1 q2 q3 _ ?_ ?_ _ _ _ ?_ ?_ ?_)<;>omega))
  |((with_reducible exact C27 _ _ _ _ _))
  |((first|exact equal_M s _ _ _ (by omega) (by omega) (by omega)|exact equal_R s q0 q1 q2 q3 _ _ _ (by omega) (by omega) (by omega)))
  |(((with_reducible refine crop_LM s q0 q1 q2 q3 _ _ ?_)<;>omega))
  |((with_reducible exact C33 _ (made_good s) _))
  |((have:=rst9 q0;have:=rst4 q1;exact okw _ (by omega) (by omega)))
  |(with_reducible exact eq38L rfl rfl)
  |(with_reducible exact Le.of (congrArg (fun l=>SV.c (.agg l)) (tl_take _)))
  |(with_reducible exact Le.bool (same_self _))
  |(exact Le.bool rfl)
  |(omega)
  |(exact okw _ (by omega) (by omega))
  |(exact Le.of rfl)
  |(exact BkR.of rfl)
  |(unfold SlOK;omega)
  |(unfold SlOK;decide)
  |(unfold inByte;decide)
  |(simp only[*,Bool.and_self,Bool.not_false,Bool.not_true];done)
  |(simp_all [wants];done)
end Ab
namespace codecBack
theorem walk (o:Option Addr) (zs:List Int) (n cap:Nat) (a b c d:Int) (w:World) (w0:n*8≤140737488351232) (hn:zs.length=n) (hcap:n≤cap)
  (hc:∀i (h:i<zs.length),∃a,o=some a∧a.block<w.heap.size∧w.cell? (a.add i)=some (.int .i64 zs[i])) (hwf:∀z∈zs,(Lit.int .i64 z).wf=true) (wf1:(Lit.int .i64 a).wf=true) (wf2:(Lit.int .i64 b).wf=true) (wf3:(Lit.int .i64 c).wf=true) (wf4:(Lit.int .i64 d).wf=true) :
  Calls Tryz.prog 8 #[.slice o n cap,.agg #[.int .i64 a,.int .i64 b,.int .i64 c,.int .i64 d]] w fun e w'=>e=.returned (.bool true)∧Below w.heap.size w w':=
 Ab.ints_call (pre:=[]) (post:=[Ab.ag [Ab.li a,Ab.li b,Ab.li c,Ab.li d]]) rfl rfl (fun x p s hx=>Ab.W8 x p s a b c d hx) o zs n cap w w0 hn hcap hc
end codecBack
namespace Ab
end Ab
end Go.Proofs.YtpdckpifhniioaaGreat
end
section
namespace Go.Proofs.YtpdckpifhniioaaGreat
open Go.WideShapes
def IsFlat:List IntKind→List Value→Prop
 |[],cs=>cs=[]
 |k::ks,cs=>∃z rest,cs=.int k z::rest∧(Lit.int k z).wf=true∧IsFlat ks rest
theorem IsFlat.append:∀ {ks ks':List IntKind} {cs cs':List Value},IsFlat ks cs→IsFlat ks' cs'→IsFlat (ks++ks') (cs++cs')
 |[],ks',cs,cs',h,h'=>by rw[show cs=[] from h];exact h'
 |k::ks,ks',cs,cs',h,h'=>by
  obtain ⟨z,rest,rfl,hw,h2⟩:=h
  exact ⟨z,rest++cs',rfl,hw,h2.append h'⟩
theorem IsFlat.chunks {ks:List IntKind}:∀(m:Nat) (cs:List Value),cs.length=m*ks.length→(∀i,i<m→IsFlat ks ((cs.drop (i*ks.length)).take ks.length))→IsFlat (List.replicate m ks).flatten cs
 |0,cs,hl,_=>by
  have:cs=[]:=List.eq_nil_of_length_eq_zero (by simpa using hl)
  subst this;rfl
 |m+1,cs,hl,h=>by
  have h0:=h 0 (by omega)
  simp only[Nat.zero_mul,List.drop_zero] at h0
  have h1:=IsFlat.chunks (ks:=ks) m (cs.drop ks.length) (by rw[List.length_drop,hl,Nat.add_mul];omega) (fun i hi=>by
   have:=h (i+1) (by omega)
   rw[List.drop_drop]
   rwa [Nat.add_mul,Nat.one_mul,Nat.add_comm] at this)
  have:=h0.append h1
  rw[List.take_append_drop] at this
  simpa [List.replicate_succ] using this
def fieldsFlat (P:Program) (rec:TypeId→Option (List IntKind)):List Field→Nat→Option (List IntKind)
 |[],_=>some []
 |f::fs,a=>
  match rec f.type with
  |none=>none
  |some ks=>if f.offset=a∧P.cellsOf f.type=ks.length then (fieldsFlat P rec fs (a+ks.length)).map (ks++·) else none
def flatK (P:Program):Nat→TypeId→Option (List IntKind)
 |0,_=>none
 |n+1,t=>
  match P.underlying t with
  |some (.int k)=>some [k]
  |some (.array m e)=>
   match flatK P n e with
   |none=>none
   |some ks=>if P.cellsOf e=ks.length∧P.cellsOf t=m*ks.length then some (List.replicate m ks).flatten else none
  |some (.struct fs)=>
   match fieldsFlat P (flatK P n) fs.toList 0 with
   |none=>none
   |some ks=>if P.cellsOf t=ks.length then some ks else none
  |_=>none
section
variable {H:Type} {enc:TypeId×Value→H} {P:Program} {w:World} {base:Nat} {spare:Nat→Bool} {held:Bool}
theorem fields_flat {rec:TypeId→Option (List IntKind)} {m:Nat} (hrec:∀t ks cs x,rec t=some ks→DataW.trod enc P w base spare held m t cs=some x→IsFlat ks cs) (cs:List Value) :
  ∀(fs:List Field) (a:Nat) (ks:List IntKind),fieldsFlat P rec fs a=some ks→
   (∀(i:Nat) (f:Field),fs[i]? = some f→∃x,DataW.trod enc P w base spare held m f.type ((cs.drop f.offset).take (P.cellsOf f.type))=some x)→
   IsFlat ks ((cs.drop a).take ks.length)
 |[],a,ks,h,_=>by
  have:ks=[]:=by simpa [fieldsFlat] using h.symm
  subst this
  simp[IsFlat]
 |f::fs,a,ks,h,hx=>by
  unfold fieldsFlat at h
  cases hr:rec f.type with
  |none=>simp[hr] at h
  |some k0=>
   simp only[hr] at h
   split at h
   ·rename_i hc
    obtain ⟨hoff,hcell⟩:=hc
    cases hf:fieldsFlat P rec fs (a+k0.length) with
    |none=>simp[hf] at h
    |some k1=>
     have hk:k0++k1=ks:=by simpa [hf] using h
     subst hk
     obtain ⟨x,hx0⟩:=hx 0 f rfl
     have h0:=hrec _ _ _ _ hr hx0
     rw[hoff,hcell] at h0
     have h1:=fields_flat hrec cs fs (a+k0.length) k1 hf (fun i g hg=>hx (i+1) g (by simpa using hg))
     have:=h0.append h1
     have e:(cs.drop a).take k0.length++(cs.drop (a+k0.length)).take k1.length=(cs.drop a).take (k0++k1).length:=by
      rw[List.length_append,List.take_add,List.drop_drop]
     rwa [e] at this
   ·simp at h
theorem trod_flat:∀(n:Nat) (t:TypeId) (ks:List IntKind) (fuel:Nat) (cs:List Value) (x:DataW H×List MemPlace),flatK P n t=some ks→
  DataW.trod enc P w base spare held fuel t cs=some x→IsFlat ks cs
 |0,t,ks,fuel,cs,x,h,_=>by simp[flatK] at h
 |n+1,t,ks,fuel,cs,x,h,hx=>by
  unfold flatK at h
  split at h
  ·rename_i k hu
   have:ks=[k]:=by simpa using h.symm
   subst this
   obtain ⟨z,rfl,_,hw⟩:=DataW.trod_int hu hx
   exact ⟨z,[],rfl,hw,rfl⟩
  ·rename_i m e hu
   cases hr:flatK P n e with
   |none=>simp[hr] at h
   |some k0=>
    simp only[hr] at h
    split at h
    ·rename_i hc
     obtain ⟨hc1,hc2⟩:=hc
     have:ks=(List.replicate m k0).flatten:=by simpa using h.symm
     subst this
     obtain ⟨xs,mm,_,_,hl,hxs,hel⟩:=DataW.trod_array hu hx
     refine IsFlat.chunks m cs (by rw[hl,hc2]) fun i hi=>?_
     have hxi:=hel i hi
     rw[hc1,List.getElem?_eq_getElem (by omega)] at hxi
     exact trod_flat n e k0 mm _ _ hr hxi
    ·simp at h
  ·rename_i fs hu
   cases hr:fieldsFlat P (flatK P n) fs.toList 0 with
   |none=>simp[hr] at h
   |some k0=>
    simp only[hr] at h
    split at h
    ·rename_i hc
     have:ks=k0:=by simpa using h.symm
     subst this
     obtain ⟨xs,mm,_,_,hl,hxs,hel⟩:=DataW.trod_struct hu hx
     have:=fields_flat (rec:=flatK P n) (m:=mm) (fun t ks cs x h1 h2=>trod_flat n t ks mm cs x h1 h2) cs fs.toList 0 ks hr (fun i f hf=>by
      have hf':fs[i]? = some f:=by simpa using hf
      have:=hel i f hf'
      rw[List.getElem?_eq_getElem (by
       have:=(Array.getElem?_eq_some_iff.1 hf').1
       omega)] at this
      exact ⟨_,this⟩)
     rw[List.drop_zero,List.take_of_length_le (by rw[hl,hc];exact Nat.le_refl _)] at this
     exact this
    ·simp at h
  ·simp at h
theorem open_flat {t:TypeId} {v:Value} {d:DataW H} {p:List MemPlace} {ks:List IntKind} (n:Nat) (hk:flatK P n t=some ks) (hagg:∃C,v=.agg C)
  (h:DataW.Trod enc P w base spare held t v d p):∃cs,v=.agg cs.toArray∧IsFlat ks cs:=by
 obtain ⟨C,rfl⟩:=hagg
 obtain ⟨fuel,hf⟩:=h
 exact ⟨C.toList,by simp,trod_flat n t ks fuel _ _ hk (by simpa [Value.cells] using hf)⟩
theorem agg_array {r:Reach} {t:TypeId} {v:Value} {n:Nat} {e:TypeId} (hs:P.underlying t=some (.array n e)) (hv:Value.okWide P w r base t v):∃C,v=.agg C:=by
 unfold Value.okWide at hv
 rw[hs] at hv
 obtain ⟨C,h,_⟩:=hv
 exact ⟨C,h⟩
end
end Go.Proofs.YtpdckpifhniioaaGreat
end
section
namespace Go.Proofs.YtpdckpifhniioaaGreat
open Go.WideShapes Go.ChangeShapes
section
variable {H:Type} {enc:TypeId×Value→H} {P:Program} {W:World} {base:Nat}
theorem row_lt {p:List MemPlace} {a:Addr} {n i:Nat} (hp:p=MemPlace.row a n) (hi:i<n) (hlt:∀x∈p,x.block<W.heap.size):a.block<W.heap.size:=by
 obtain ⟨b,off,spot⟩:=a
 exact hlt (.cell b off) (by rw[hp];exact MemPlace.mem_row.2 ⟨0,by omega,by simp⟩)
theorem open_int_slice {t e:TypeId} {k:IntKind} {r:Reach} {b0:Nat} {v:Value} {d:DataW H} {p:List MemPlace} (ht:P.underlying t=some (.slice e)) (he:P.underlying e=some (.int k)) (hc:P.cellsOf e=1)
  (hv:Value.okWide P W r b0 t v) (h:DataW.Trod enc P W base (fun _=>true) true t v d p) (hlt:∀x∈p,x.block<W.heap.size) :
  ∃(o:Option Addr) (n cap:Nat) (zs:List Int),v=.slice o n cap∧zs.length=n∧n≤cap∧(∀z∈zs,(Lit.int k z).wf=true)∧
   (∀i (h:i<zs.length),∃a,o=some a∧a.block<W.heap.size∧W.cell? (a.add i)=some (.int k zs[i]))∧(d=.nil∧n=0∨∃elems spare,d=.slice elems spare∧elems.length=n):=by
 obtain ⟨o,len,cap,rfl⟩:=okWide_slice ht hv
 obtain ⟨fuel,hf⟩:=h
 rcases open_ints ht he hc hf with ⟨hcs,hx⟩|⟨a,len',cap',zs,hcs,_,hl,hm,hz,hx,hcell,hwz⟩
 ·simp[Value.cells] at hcs
  obtain ⟨rfl,rfl,rfl⟩:=hcs
  simp only[Prod.mk.injEq] at hx
  obtain ⟨rfl,rfl⟩:=hx
  exact ⟨none,0,0,[],rfl,rfl,Nat.le_refl _,by simp,fun i h=>by simp at h,Or.inl ⟨rfl,rfl⟩⟩
 ·simp[Value.cells] at hcs
  obtain ⟨rfl,rfl,rfl⟩:=hcs
  simp only[Prod.mk.injEq] at hx
  obtain ⟨rfl,hp⟩:=hx
  simp only[if_true] at hz
  refine ⟨some a,len,cap,zs.take len,rfl,by rw[List.length_take];omega,hl,fun z hzz=>hwz z (List.mem_of_mem_take hzz),fun i hi=>?_,Or.inr ⟨_,_,rfl,by simp[lits];omega⟩⟩
  rw[List.length_take] at hi
  refine ⟨a,rfl,row_lt hp (show i<zs.length by omega) hlt,?_⟩
  rw[hcell i (by omega),List.getElem_take,List.getD_eq_getElem?_getD,List.getElem?_eq_getElem (by omega)];rfl
theorem reach_slice {ts:List TypeId} {ds:List (DataW H)} {j:Nat} {t e:TypeId} {d:DataW H} {n:Nat} (h:(DataW.weightsEach P ts ds).all (·≤reachBytes)=true) (ht:ts[j]? = some t) (hd:ds[j]? = some d)
  (hu:P.underlying t=some (.slice e)) (hs:d=.nil∧n=0∨∃elems spare,d=.slice elems spare∧elems.length=n):n*P.bytesOf e≤140737488351232:=by
 rcases hs with ⟨_,rfl⟩|⟨elems,spare,rfl,rfl⟩
 ·simp
 ·have:=sized_slice h ht hd hu
  refine Nat.le_trans (Nat.mul_le_mul_right _ (Nat.le_add_right _ _)) (show _≤140737488351232 from this)
end
end Go.Proofs.YtpdckpifhniioaaGreat
end
