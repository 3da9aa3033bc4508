/- Part 20 of what CodecPacks rests on. -/
import Derived.Test.YtpdckpifhniioaaGreatVs
section
set_option linter.unusedVariables false
set_option linter.unusedSimpArgs false
namespace Go.Proofs.YtpdckpifhniioaaGreat
open Go.RowKit
namespace Ab
attribute [local irreducible] CallOKd
attribute [local irreducible] tl rws
def prd (k l u c:Int):Int:=Prd.M.pred k.toNat l u c
def gsR (k:Int) (q:Nat→UInt8) (i:Nat):UInt8:=Prd.M.gs k.toNat q i
theorem pr_1 {k l u c:Int} (h:(k==1)=true):l=prd k l u c:=by rw[eq_of_beq h];rfl
theorem pr_2 {k l u c:Int} (h:(k==2)=true):u=prd k l u c:=by rw[eq_of_beq h];rfl
theorem pr_3 {k l u c:Int} (hl:0≤l) (hu:0≤u) (h:(k==3)=true):(l+u).tdiv 2=prd k l u c:=by
 rw[eq_of_beq h,Int.tdiv_eq_ediv_of_nonneg (by omega)];rfl
theorem pr_4 {k l u c:Int} (h:(k==4)=true):paR l u c=prd k l u c:=by rw[eq_of_beq h];rfl
theorem pr_5 {k l u c:Int} (h:(k==5)=true):meR l u c=prd k l u c:=by rw[eq_of_beq h];rfl
theorem pr_0 {k l u c:Int} (h0:0≤k) (hk:k<6) (h1:(k==1)=false) (h2:(k==2)=false) (h3:(k==3)=false) (h4:(k==4)=false) (h5:(k==5)=false):0=prd k l u c:=by
 simp at h1 h2 h3 h4 h5
 rw[show k=0 by omega];rfl
theorem pa_bd {l u c:Int} (hl:0≤l∧l≤255) (hu:0≤u∧u≤255) (hc:0≤c∧c≤255):0≤paR l u c∧paR l u c≤255:=Prd.M.pred_in 4 _ _ _ hl hu hc
theorem me_bd {l u c:Int} (hl:0≤l∧l≤255) (hu:0≤u∧u≤255) (hc:0≤c∧c≤255):0≤meR l u c∧meR l u c≤255:=Prd.M.pred_in 5 _ _ _ hl hu hc
theorem w8p {x:Int} (h:0≤x∧x≤255):IntKind.u8.wrap x=x:=by rw[u8wr];omega
theorem tb_get (t:Nat→UInt8) {m j:Nat} (h:j<m):(tb t m).getD j .u=ub (t j):=by
 unfold tb
 simp[List.getD,h]
theorem tbU (q:Nat→UInt8) {i:Nat} (j:Nat) (z:Int) (e:z.toNat=j) (h:j<64):SV.c (.l ((tb q 64).getD z.toNat .u))=.c (.l (ub (q j))):=by
 rw[e,tb_get _ h]
theorem enters167:Enters Tryz.prog 167:=fun args w=>by go_simp
def cz_C167A (q:Nat→UInt8) (i:Nat) (k:Int):Cz:={
 ct:=(fun f=>match f with
 |192=>some fun _ _S ar=>match ar with | [.c (.l (.v (.int _ l))),.c (.l (.v (.int _ u))),.c (.l (.v (.int _ c)))]=>some {v:=iv .i64 (paR l u c),rd:=[],wr:=[],nw:=0}|_=>none
 |193=>some fun _ _S ar=>match ar with | [.c (.l (.v (.int _ l))),.c (.l (.v (.int _ u))),.c (.l (.v (.int _ c)))]=>some {v:=iv .i64 (meR l u c),rd:=[],wr:=[],nw:=0}|_=>none
 |_=>none)
 eq:=(fun t=>match t with
 |_=>none)
 raw:=[],sym:=[17,18,24,25,35,36],nf:=[(19,iv .i64 ((q (i-8)).toNat:Nat)),(26,iv .i64 ((q (i-1)).toNat:Nat)),(37,iv .i64 ((q (i-9)).toNat:Nat)),(54,iv .u8 0),(58,iv .u8 0),(65,iv .u8 ((0+0:Int).tdiv 2)),(72,iv .u8 (paR 0 0 0)),(79,iv .u8 (meR 0 0 0)),(12,iv .i64 ((i % 8:Nat):Nat)),(18,.c (.l (ub (q (i-8))))),(25,.c (.l (ub (q (i-1))))),(36,.c (.l (ub (q (i-9))))),(14,bv false),(21,bv false),(32,bv false),(39,bv true),(47,bv false)],ap:=true,off:=[],on:=[],lp:=fun _=>none,un:=0,wh:=[189]}
set_option maxRecDepth 100000 in
set_option maxHeartbeats 4000000 in
theorem C167A (q:Nat→UInt8) (i:Nat) (k:Int) (h0:0≤k) (hk:k<6) (hi:i=0) (n:Nat):CallOK Tryz.prog 167 [.c (.agg (tb q 64)),iv .i64 (i:Nat),iv .i64 k] [] n (iv .u8 (prd k 0 0 0)) [] 0:=by
 refine CallOK.any ?_ (by kernel_rfl) (by kernel_rfl) n
 have b1:=(q (i-1)).toNat_lt
 have b8:=(q (i-8)).toNat_lt
 have b9:=(q (i-9)).toNat_lt
 have hm:=Int.tmod_eq_emod_of_nonneg (b:=8) (show (0:Int)≤((i:Nat):Int) by omega)
 have htd:=Int.tdiv_eq_ediv_of_nonneg (b:=2) (show (0:Int)≤0+0 by omega)
 refine call_ok (cx:=cz_C167A q i k) (nm:=[]) rfl Tryz.func167 (body:=Tryz.f167.body.getD .skip) rfl enters167 (by kernel_rfl) ?_
 apply of_eq (q:=(8:Int)≠0∧Le (iv IntKind.i64 (((Nat.cast i:Int)).tmod 8)) (iv IntKind.i64 (Nat.cast ((i % 8)):Int))∧Le (bv (decide ((Nat.cast i:Int)≥8))) (bv false)∧Le (bv (decide ((Nat.cast ((i % 8)):Int)>0))) (bv false)∧(decide ((Nat.cast ((i % 8)):Int)>0)=true→decide ((Nat.cast ((i % 8)):Int)>0)=true∧True)∧(decide ((Nat.cast ((i % 8)):Int)>0)=true→decide ((Nat.cast ((i % 8)):Int)>0)=true)∧Le (bv (bif decide ((Nat.cast ((i % 8)):Int)>0) then decide ((Nat.cast i:Int)≥8) else false)) (bv false)∧Le (bv ((Nat.cast ((i % 8)):Int)==0)) (bv true)∧(decide ((Nat.cast i:Int)<8)=true→decide ((Nat.cast i:Int)<8)=true∧True)∧(decide ((Nat.cast i:Int)<8)=true→decide ((Nat.cast i:Int)<8)=true)∧Le (bv (bif decide ((Nat.cast i:Int)<8) then decide ((Nat.cast ((i % 8)):Int)>0) else false)) (bv false)∧HB (k==1) (Le (iv IntKind.u8 (IntKind.u8.wrap 0)) (iv IntKind.u8 0)∧Le (iv IntKind.u8 0) (iv IntKind.u8 (prd k 0 0 0))∧True) (HB (k==2) (Le (iv IntKind.u8 (IntKind.u8.wrap 0)) (iv IntKind.u8 0)∧Le (iv IntKind.u8 0) (iv IntKind.u8 (prd k 0 0 0))∧True) (HB (k==3) (IntKind.i64.wrap (0+0)=0+0∧(2:Int)≠0∧IntKind.i64.wrap ((0+0:Int).tdiv 2)=(0+0:Int).tdiv 2∧Le (iv IntKind.u8 (IntKind.u8.wrap ((0+0:Int).tdiv 2))) (iv IntKind.u8 ((0+0:Int).tdiv 2))∧Le (iv IntKind.u8 ((0+0:Int).tdiv 2)) (iv IntKind.u8 (prd k 0 0 0))∧True) (HB (k==4) (CallOKd Tryz.prog 192 [] [iv IntKind.i64 0,iv IntKind.i64 0,iv IntKind.i64 0] [] 1 (iv IntKind.i64 (paR 0 0 0)) [] 0∧Le (iv IntKind.u8 (IntKind.u8.wrap (paR 0 0 0))) (iv IntKind.u8 (paR 0 0 0))∧Le (iv IntKind.u8 (paR 0 0 0)) (iv IntKind.u8 (prd k 0 0 0))∧True) (HB (k==5) (CallOKd Tryz.prog 193 [] [iv IntKind.i64 0,iv IntKind.i64 0,iv IntKind.i64 0] [] 1 (iv IntKind.i64 (meR 0 0 0)) [] 0∧Le (iv IntKind.u8 (IntKind.u8.wrap (meR 0 0 0))) (iv IntKind.u8 (meR 0 0 0))∧Le (iv IntKind.u8 (meR 0 0 0)) (iv IntKind.u8 (prd k 0 0 0))∧True) (Le (iv IntKind.u8 0) (iv IntKind.u8 (prd k 0 0 0))∧True)))))) (by kernel_rfl)
 repeat' (first|exact trivial|with_reducible apply And.intro|(with_reducible apply HB.mk)|with_reducible intro _)
 all_goals first
  |(with_reducible assumption)
  |(with_reducible exact Le.refl _)
  |(with_reducible rfl)
  |(((with_reducible refine C192 _ _ _ ?_ ?_ ?_ _)<;>omega))
  |(((with_reducible refine C193 _ _ _ ?_ ?_ ?_ _)<;>omega))
  |(exact ⟨by omega,by omega⟩)
  |(omega)
  |((exact okw _ (by omega) (by omega)))
  |((refine Le.int ?_;exact okw _ (by omega) (by omega)))
  |((refine Le.int ?_;exact w8p (by omega)))
  |((refine Le.int ?_;exact w8p (pa_bd (by omega) (by omega) (by omega))))
  |((refine Le.int ?_;exact w8p (me_bd (by omega) (by omega) (by omega))))
  |((refine Le.of ?_;simp only[Nat.zero_add,Nat.add_zero,Nat.mul_one];exact tbU (i:=i) q _ _ (by omega) (by omega)))
  |(with_reducible exact Le.int (pr_1 (l:=0) (u:=0) (c:=0) (by with_reducible assumption)))
  |(with_reducible exact Le.int (pr_2 (l:=0) (u:=0) (c:=0) (by with_reducible assumption)))
  |(with_reducible exact Le.int (pr_3 (l:=0) (u:=0) (c:=0) (by omega) (by omega) (by with_reducible assumption)))
  |(with_reducible exact Le.int (pr_4 (l:=0) (u:=0) (c:=0) (by with_reducible assumption)))
  |(with_reducible exact Le.int (pr_5 (l:=0) (u:=0) (c:=0) (by with_reducible assumption)))
  |(with_reducible exact Le.int (pr_0 (l:=0) (u:=0) (c:=0) h0 hk (by with_reducible assumption) (by with_reducible assumption) (by with_reducible assumption) (by with_reducible assumption) (by with_reducible assumption)))
  |((refine Le.int ?_;omega))
  |((refine Le.bool (decide_eq_true ?_);omega))
  |((refine Le.bool (decide_eq_false ?_);omega))
  |((refine Le.bool ?_;simp;omega))
  |((rw[tb_len];omega))
  |(exact okw _ (by omega) (by omega))
  |(exact Le.of rfl)
  |(exact BkR.of rfl)
  |(unfold SlOK;omega)
  |(unfold SlOK;decide)
  |(unfold inByte;decide)
  |(simp only[*,Bool.and_self,Bool.not_false,Bool.not_true];done)
  |(simp_all [wants];done)
def cz_C167B (q:Nat→UInt8) (i:Nat) (k:Int):Cz:={
 ct:=(fun f=>match f with
 |192=>some fun _ _S ar=>match ar with | [.c (.l (.v (.int _ l))),.c (.l (.v (.int _ u))),.c (.l (.v (.int _ c)))]=>some {v:=iv .i64 (paR l u c),rd:=[],wr:=[],nw:=0}|_=>none
 |193=>some fun _ _S ar=>match ar with | [.c (.l (.v (.int _ l))),.c (.l (.v (.int _ u))),.c (.l (.v (.int _ c)))]=>some {v:=iv .i64 (meR l u c),rd:=[],wr:=[],nw:=0}|_=>none
 |_=>none)
 eq:=(fun t=>match t with
 |_=>none)
 raw:=[],sym:=[17,18,24,25,35,36],nf:=[(19,iv .i64 ((q (i-8)).toNat:Nat)),(26,iv .i64 ((q (i-1)).toNat:Nat)),(37,iv .i64 ((q (i-9)).toNat:Nat)),(54,iv .u8 ((q (i-1)).toNat:Nat)),(58,iv .u8 ((q (i-1)).toNat:Nat)),(65,iv .u8 ((((q (i-1)).toNat:Nat)+((q (i-1)).toNat:Nat):Int).tdiv 2)),(72,iv .u8 (paR ((q (i-1)).toNat:Nat) ((q (i-1)).toNat:Nat) ((q (i-1)).toNat:Nat))),(79,iv .u8 (meR ((q (i-1)).toNat:Nat) ((q (i-1)).toNat:Nat) ((q (i-1)).toNat:Nat))),(12,iv .i64 ((i % 8:Nat):Nat)),(18,.c (.l (ub (q (i-8))))),(25,.c (.l (ub (q (i-1))))),(36,.c (.l (ub (q (i-9))))),(14,bv false),(21,bv true),(32,bv false),(39,bv false),(47,bv true)],ap:=true,off:=[],on:=[],lp:=fun _=>none,un:=0,wh:=[189]}
set_option maxRecDepth 100000 in
set_option maxHeartbeats 4000000 in
theorem C167B (q:Nat→UInt8) (i:Nat) (k:Int) (h0:0≤k) (hk:k<6) (hi:0<i) (hj:i<8) (n:Nat):CallOK Tryz.prog 167 [.c (.agg (tb q 64)),iv .i64 (i:Nat),iv .i64 k] [] n (iv .u8 (prd k ((q (i-1)).toNat:Nat) ((q (i-1)).toNat:Nat) ((q (i-1)).toNat:Nat))) [] 0:=by
 refine CallOK.any ?_ (by kernel_rfl) (by kernel_rfl) n
 have b1:=(q (i-1)).toNat_lt
 have b8:=(q (i-8)).toNat_lt
 have b9:=(q (i-9)).toNat_lt
 have hm:=Int.tmod_eq_emod_of_nonneg (b:=8) (show (0:Int)≤((i:Nat):Int) by omega)
 have htd:=Int.tdiv_eq_ediv_of_nonneg (b:=2) (show (0:Int)≤((q (i-1)).toNat:Nat)+((q (i-1)).toNat:Nat) by omega)
 refine call_ok (cx:=cz_C167B q i k) (nm:=[]) rfl Tryz.func167 (body:=Tryz.f167.body.getD .skip) rfl enters167 (by kernel_rfl) ?_
 apply of_eq (q:=(8:Int)≠0∧Le (iv IntKind.i64 (((Nat.cast i:Int)).tmod 8)) (iv IntKind.i64 (Nat.cast ((i % 8)):Int))∧Le (bv (decide ((Nat.cast i:Int)≥8))) (bv false)∧Le (bv (decide ((Nat.cast ((i % 8)):Int)>0))) (bv true)∧IntKind.i64.wrap ((Nat.cast i:Int)-1)=(Nat.cast i:Int)-1∧InR ((Nat.cast i:Int)-1) 64∧0+((Nat.cast i:Int)-1).toNat*1<64∧Le (SV.c (Cp.l ((tb q 64).getD (0+((Nat.cast i:Int)-1).toNat*1) Leaf.u))) (iv IntKind.u8 (Nat.cast ((q (i-1)).toNat):Int))∧Le (iv IntKind.i64 (IntKind.i64.wrap (Nat.cast ((q (i-1)).toNat):Int))) (iv IntKind.i64 (Nat.cast ((q (i-1)).toNat):Int))∧(decide ((Nat.cast ((i % 8)):Int)>0)=true→decide ((Nat.cast ((i % 8)):Int)>0)=true∧True)∧(decide ((Nat.cast ((i % 8)):Int)>0)=true→decide ((Nat.cast ((i % 8)):Int)>0)=true)∧Le (bv (bif decide ((Nat.cast ((i % 8)):Int)>0) then decide ((Nat.cast i:Int)≥8) else false)) (bv false)∧Le (bv ((Nat.cast ((i % 8)):Int)==0)) (bv false)∧(decide ((Nat.cast i:Int)<8)=true→decide ((Nat.cast i:Int)<8)=true∧True)∧(decide ((Nat.cast i:Int)<8)=true→decide ((Nat.cast i:Int)<8)=true)∧Le (bv (bif decide ((Nat.cast i:Int)<8) then decide ((Nat.cast ((i % 8)):Int)>0) else false)) (bv true)∧HB (k==1) (Le (iv IntKind.u8 (IntKind.u8.wrap (Nat.cast ((q (i-1)).toNat):Int))) (iv IntKind.u8 (Nat.cast ((q (i-1)).toNat):Int))∧Le (iv IntKind.u8 (Nat.cast ((q (i-1)).toNat):Int)) (iv IntKind.u8 (prd k (Nat.cast ((q (i-1)).toNat):Int) (Nat.cast ((q (i-1)).toNat):Int) (Nat.cast ((q (i-1)).toNat):Int)))∧True) (HB (k==2) (Le (iv IntKind.u8 (IntKind.u8.wrap (Nat.cast ((q (i-1)).toNat):Int))) (iv IntKind.u8 (Nat.cast ((q (i-1)).toNat):Int))∧Le (iv IntKind.u8 (Nat.cast ((q (i-1)).toNat):Int)) (iv IntKind.u8 (prd k (Nat.cast ((q (i-1)).toNat):Int) (Nat.cast ((q (i-1)).toNat):Int) (Nat.cast ((q (i-1)).toNat):Int)))∧True) (HB (k==3) (IntKind.i64.wrap ((Nat.cast ((q (i-1)).toNat):Int)+(Nat.cast ((q (i-1)).toNat):Int))=(Nat.cast ((q (i-1)).toNat):Int)+(Nat.cast ((q (i-1)).toNat):Int)∧(2:Int)≠0∧IntKind.i64.wrap (((Nat.cast ((q (i-1)).toNat):Int)+(Nat.cast ((q (i-1)).toNat):Int)).tdiv 2)=((Nat.cast ((q (i-1)).toNat):Int)+(Nat.cast ((q (i-1)).toNat):Int)).tdiv 2∧Le (iv IntKind.u8 (IntKind.u8.wrap (((Nat.cast ((q (i-1)).toNat):Int)+(Nat.cast ((q (i-1)).toNat):Int)).tdiv 2))) (iv IntKind.u8 (((Nat.cast ((q (i-1)).toNat):Int)+(Nat.cast ((q (i-1)).toNat):Int)).tdiv 2))∧Le (iv IntKind.u8 (((Nat.cast ((q (i-1)).toNat):Int)+(Nat.cast ((q (i-1)).toNat):Int)).tdiv 2)) (iv IntKind.u8 (prd k (Nat.cast ((q (i-1)).toNat):Int) (Nat.cast ((q (i-1)).toNat):Int) (Nat.cast ((q (i-1)).toNat):Int)))∧True) (HB (k==4) (CallOKd Tryz.prog 192 [] [iv IntKind.i64 (Nat.cast ((q (i-1)).toNat):Int),iv IntKind.i64 (Nat.cast ((q (i-1)).toNat):Int),iv IntKind.i64 (Nat.cast ((q (i-1)).toNat):Int)] [] 1 (iv IntKind.i64 (paR (Nat.cast ((q (i-1)).toNat):Int) (Nat.cast ((q (i-1)).toNat):Int) (Nat.cast ((q (i-1)).toNat):Int))) [] 0∧Le (iv IntKind.u8 (IntKind.u8.wrap (paR (Nat.cast ((q (i-1)).toNat):Int) (Nat.cast ((q (i-1)).toNat):Int) (Nat.cast ((q (i-1)).toNat):Int)))) (iv IntKind.u8 (paR (Nat.cast ((q (i-1)).toNat):Int) (Nat.cast ((q (i-1)).toNat):Int) (Nat.cast ((q (i-1)).toNat):Int)))∧Le (iv IntKind.u8 (paR (Nat.cast ((q (i-1)).toNat):Int) (Nat.cast ((q (i-1)).toNat):Int) (Nat.cast ((q (i-1)).toNat):Int))) (iv IntKind.u8 (prd k (Nat.cast ((q (i-1)).toNat):Int) (Nat.cast ((q (i-1)).toNat):Int) (Nat.cast ((q (i-1)).toNat):Int)))∧True) (HB (k==5) (CallOKd Tryz.prog 193 [] [iv IntKind.i64 (Nat.cast ((q (i-1)).toNat):Int),iv IntKind.i64 (Nat.cast ((q (i-1)).toNat):Int),iv IntKind.i64 (Nat.cast ((q (i-1)).toNat):Int)] [] 1 (iv IntKind.i64 (meR (Nat.cast ((q (i-1)).toNat):Int) (Nat.cast ((q (i-1)).toNat):Int) (Nat.cast ((q (i-1)).toNat):Int))) [] 0∧Le (iv IntKind.u8 (IntKind.u8.wrap (meR (Nat.cast ((q (i-1)).toNat):Int) (Nat.cast ((q (i-1)).toNat):Int) (Nat.cast ((q (i-1)).toNat):Int)))) (iv IntKind.u8 (meR (Nat.cast ((q (i-1)).toNat):Int) (Nat.cast ((q (i-1)).toNat):Int) (Nat.cast ((q (i-1)).toNat):Int)))∧Le (iv IntKind.u8 (meR (Nat.cast ((q (i-1)).toNat):Int) (Nat.cast ((q (i-1)).toNat):Int) (Nat.cast ((q (i-1)).toNat):Int))) (iv IntKind.u8 (prd k (Nat.cast ((q (i-1)).toNat):Int) (Nat.cast ((q (i-1)).toNat):Int) (Nat.cast ((q (i-1)).toNat):Int)))∧True) (Le (iv IntKind.u8 0) (iv IntKind.u8 (prd k (Nat.cast ((q (i-1)).toNat):Int) (Nat.cast ((q (i-1)).toNat):Int) (Nat.cast ((q (i-1)).toNat):Int)))∧True)))))) (by kernel_rfl)
 repeat' (first|exact trivial|with_reducible apply And.intro|(with_reducible apply HB.mk)|with_reducible intro _)
 all_goals first
  |(with_reducible assumption)
  |(with_reducible exact Le.refl _)
  |(with_reducible rfl)
  |(((with_reducible refine C192 _ _ _ ?_ ?_ ?_ _)<;>omega))
  |(((with_reducible refine C193 _ _ _ ?_ ?_ ?_ _)<;>omega))
  |(exact ⟨by omega,by omega⟩)
  |(omega)
  |((exact okw _ (by omega) (by omega)))
  |((refine Le.int ?_;exact okw _ (by omega) (by omega)))
  |((refine Le.int ?_;exact w8p (by omega)))
  |((refine Le.int ?_;exact w8p (pa_bd (by omega) (by omega) (by omega))))
  |((refine Le.int ?_;exact w8p (me_bd (by omega) (by omega) (by omega))))
  |((refine Le.of ?_;simp only[Nat.zero_add,Nat.add_zero,Nat.mul_one];exact tbU (i:=i) q _ _ (by omega) (by omega)))
  |(with_reducible exact Le.int (pr_1 (l:=((q (i-1)).toNat:Nat)) (u:=((q (i-1)).toNat:Nat)) (c:=((q (i-1)).toNat:Nat)) (by with_reducible assumption)))
  |(with_reducible exact Le.int (pr_2 (l:=((q (i-1)).toNat:Nat)) (u:=((q (i-1)).toNat:Nat)) (c:=((q (i-1)).toNat:Nat)) (by with_reducible assumption)))
  |(with_reducible exact Le.int (pr_3 (l:=((q (i-1)).toNat:Nat)) (u:=((q (i-1)).toNat:Nat)) (c:=((q (i-1)).toNat:Nat)) (by omega) (by omega) (by with_reducible assumption)))
  |(with_reducible exact Le.int (pr_4 (l:=((q (i-1)).toNat:Nat)) (u:=((q (i-1)).toNat:Nat)) (c:=((q (i-1)).toNat:Nat)) (by with_reducible assumption)))
  |(with_reducible exact Le.int (pr_5 (l:=((q (i-1)).toNat:Nat)) (u:=((q (i-1)).toNat:Nat)) (c:=((q (i-1)).toNat:Nat)) (by with_reducible assumption)))
  |(with_reducible exact Le.int (pr_0 (l:=((q (i-1)).toNat:Nat)) (u:=((q (i-1)).toNat:Nat)) (c:=((q (i-1)).toNat:Nat)) h0 hk (by with_reducible assumption) (by with_reducible assumption) (by with_reducible assumption) (by with_reducible assumption) (by with_reducible assumption)))
  |((refine Le.int ?_;omega))
  |((refine Le.bool (decide_eq_true ?_);omega))
  |((refine Le.bool (decide_eq_false ?_);omega))
  |((refine Le.bool ?_;simp;omega))
  |((rw[tb_len];omega))
  |(exact okw _ (by omega) (by omega))
  |(exact Le.of rfl)
  |(exact BkR.of rfl)
  |(unfold SlOK;omega)
  |(unfold SlOK;decide)
  |(unfold inByte;decide)
  |(simp only[*,Bool.and_self,Bool.not_false,Bool.not_true];done)
  |(simp_all [wants];done)
def cz_C167C (q:Nat→UInt8) (i:Nat) (k:Int):Cz:={
 ct:=(fun f=>match f with
 |192=>some fun _ _S ar=>match ar with | [.c (.l (.v (.int _ l))),.c (.l (.v (.int _ u))),.c (.l (.v (.int _ c)))]=>some {v:=iv .i64 (paR l u c),rd:=[],wr:=[],nw:=0}|_=>none
 |193=>some fun _ _S ar=>match ar with | [.c (.l (.v (.int _ l))),.c (.l (.v (.int _ u))),.c (.l (.v (.int _ c)))]=>some {v:=iv .i64 (meR l u c),rd:=[],wr:=[],nw:=0}|_=>none
 |_=>none)
 eq:=(fun t=>match t with
 |_=>none)
 raw:=[],sym:=[17,18,24,25,35,36],nf:=[(19,iv .i64 ((q (i-8)).toNat:Nat)),(26,iv .i64 ((q (i-1)).toNat:Nat)),(37,iv .i64 ((q (i-9)).toNat:Nat)),(54,iv .u8 ((q (i-8)).toNat:Nat)),(58,iv .u8 ((q (i-8)).toNat:Nat)),(65,iv .u8 ((((q (i-8)).toNat:Nat)+((q (i-8)).toNat:Nat):Int).tdiv 2)),(72,iv .u8 (paR ((q (i-8)).toNat:Nat) ((q (i-8)).toNat:Nat) ((q (i-8)).toNat:Nat))),(79,iv .u8 (meR ((q (i-8)).toNat:Nat) ((q (i-8)).toNat:Nat) ((q (i-8)).toNat:Nat))),(12,iv .i64 ((i % 8:Nat):Nat)),(18,.c (.l (ub (q (i-8))))),(25,.c (.l (ub (q (i-1))))),(36,.c (.l (ub (q (i-9))))),(14,bv true),(21,bv false),(32,bv false),(39,bv true),(47,bv false)],ap:=true,off:=[],on:=[],lp:=fun _=>none,un:=0,wh:=[189]}
set_option maxRecDepth 100000 in
set_option maxHeartbeats 4000000 in
theorem C167C (q:Nat→UInt8) (i:Nat) (k:Int) (h0:0≤k) (hk:k<6) (hi:8≤i) (hj:i<64) (hx:i % 8=0) (n:Nat):CallOK Tryz.prog 167 [.c (.agg (tb q 64)),iv .i64 (i:Nat),iv .i64 k] [] n (iv .u8 (prd k ((q (i-8)).toNat:Nat) ((q (i-8)).toNat:Nat) ((q (i-8)).toNat:Nat))) [] 0:=by
 refine CallOK.any ?_ (by kernel_rfl) (by kernel_rfl) n
 have b1:=(q (i-1)).toNat_lt
 have b8:=(q (i-8)).toNat_lt
 have b9:=(q (i-9)).toNat_lt
 have hm:=Int.tmod_eq_emod_of_nonneg (b:=8) (show (0:Int)≤((i:Nat):Int) by omega)
 have htd:=Int.tdiv_eq_ediv_of_nonneg (b:=2) (show (0:Int)≤((q (i-8)).toNat:Nat)+((q (i-8)).toNat:Nat) by omega)
 refine call_ok (cx:=cz_C167C q i k) (nm:=[]) rfl Tryz.func167 (body:=Tryz.f167.body.getD .skip) rfl enters167 (by kernel_rfl) ?_
 apply of_eq (q:=(8:Int)≠0∧Le (iv IntKind.i64 (((Nat.cast i:Int)).tmod 8)) (iv IntKind.i64 (Nat.cast ((i % 8)):Int))∧Le (bv (decide ((Nat.cast i:Int)≥8))) (bv true)∧IntKind.i64.wrap ((Nat.cast i:Int)-8)=(Nat.cast i:Int)-8∧InR ((Nat.cast i:Int)-8) 64∧0+((Nat.cast i:Int)-8).toNat*1<64∧Le (SV.c (Cp.l ((tb q 64).getD (0+((Nat.cast i:Int)-8).toNat*1) Leaf.u))) (iv IntKind.u8 (Nat.cast ((q (i-8)).toNat):Int))∧Le (iv IntKind.i64 (IntKind.i64.wrap (Nat.cast ((q (i-8)).toNat):Int))) (iv IntKind.i64 (Nat.cast ((q (i-8)).toNat):Int))∧Le (bv (decide ((Nat.cast ((i % 8)):Int)>0))) (bv false)∧(decide ((Nat.cast ((i % 8)):Int)>0)=true→decide ((Nat.cast ((i % 8)):Int)>0)=true∧True)∧(decide ((Nat.cast ((i % 8)):Int)>0)=true→decide ((Nat.cast ((i % 8)):Int)>0)=true)∧Le (bv (bif decide ((Nat.cast ((i % 8)):Int)>0) then decide ((Nat.cast i:Int)≥8) else false)) (bv false)∧Le (bv ((Nat.cast ((i % 8)):Int)==0)) (bv true)∧(decide ((Nat.cast i:Int)<8)=true→decide ((Nat.cast i:Int)<8)=true∧True)∧(decide ((Nat.cast i:Int)<8)=true→decide ((Nat.cast i:Int)<8)=true)∧Le (bv (bif decide ((Nat.cast i:Int)<8) then decide ((Nat.cast ((i % 8)):Int)>0) else false)) (bv false)∧HB (k==1) (Le (iv IntKind.u8 (IntKind.u8.wrap (Nat.cast ((q (i-8)).toNat):Int))) (iv IntKind.u8 (Nat.cast ((q (i-8)).toNat):Int))∧Le (iv IntKind.u8 (Nat.cast ((q (i-8)).toNat):Int)) (iv IntKind.u8 (prd k (Nat.cast ((q (i-8)).toNat):Int) (Nat.cast ((q (i-8)).toNat):Int) (Nat.cast ((q (i-8)).toNat):Int)))∧True) (HB (k==2) (Le (iv IntKind.u8 (IntKind.u8.wrap (Nat.cast ((q (i-8)).toNat):Int))) (iv IntKind.u8 (Nat.cast ((q (i-8)).toNat):Int))∧Le (iv IntKind.u8 (Nat.cast ((q (i-8)).toNat):Int)) (iv IntKind.u8 (prd k (Nat.cast ((q (i-8)).toNat):Int) (Nat.cast ((q (i-8)).toNat):Int) (Nat.cast ((q (i-8)).toNat):Int)))∧True) (HB (k==3) (IntKind.i64.wrap ((Nat.cast ((q (i-8)).toNat):Int)+(Nat.cast ((q (i-8)).toNat):Int))=(Nat.cast ((q (i-8)).toNat):Int)+(Nat.cast ((q (i-8)).toNat):Int)∧(2:Int)≠0∧IntKind.i64.wrap (((Nat.cast ((q (i-8)).toNat):Int)+(Nat.cast ((q (i-8)).toNat):Int)).tdiv 2)=((Nat.cast ((q (i-8)).toNat):Int)+(Nat.cast ((q (i-8)).toNat):Int)).tdiv 2∧Le (iv IntKind.u8 (IntKind.u8.wrap (((Nat.cast ((q (i-8)).toNat):Int)+(Nat.cast ((q (i-8)).toNat):Int)).tdiv 2))) (iv IntKind.u8 (((Nat.cast ((q (i-8)).toNat):Int)+(Nat.cast ((q (i-8)).toNat):Int)).tdiv 2))∧Le (iv IntKind.u8 (((Nat.cast ((q (i-8)).toNat):Int)+(Nat.cast ((q (i-8)).toNat):Int)).tdiv 2)) (iv IntKind.u8 (prd k (Nat.cast ((q (i-8)).toNat):Int) (Nat.cast ((q (i-8)).toNat):Int) (Nat.cast ((q (i-8)).toNat):Int)))∧True) (HB (k==4) (CallOKd Tryz.prog 192 [] [iv IntKind.i64 (Nat.cast ((q (i-8)).toNat):Int),iv IntKind.i64 (Nat.cast ((q (i-8)).toNat):Int),iv IntKind.i64 (Nat.cast ((q (i-8)).toNat):Int)] [] 1 (iv IntKind.i64 (paR (Nat.cast ((q (i-8)).toNat):Int) (Nat.cast ((q (i-8)).toNat):Int) (Nat.cast ((q (i-8)).toNat):Int))) [] 0∧Le (iv IntKind.u8 (IntKind.u8.wrap (paR (Nat.cast ((q (i-8)).toNat):Int) (Nat.cast ((q (i-8)).toNat):Int) (Nat.cast ((q (i-8)).toNat):Int)))) (iv IntKind.u8 (paR (Nat.cast ((q (i-8)).toNat):Int) (Nat.cast ((q (i-8)).toNat):Int) (Nat.cast ((q (i-8)).toNat):Int)))∧Le (iv IntKind.u8 (paR (Nat.cast ((q (i-8)).toNat):Int) (Nat.cast ((q (i-8)).toNat):Int) (Nat.cast ((q (i-8)).toNat):Int))) (iv IntKind.u8 (prd k (Nat.cast ((q (i-8)).toNat):Int) (Nat.cast ((q (i-8)).toNat):Int) (Nat.cast ((q (i-8)).toNat):Int)))∧True) (HB (k==5) (CallOKd Tryz.prog 193 [] [iv IntKind.i64 (Nat.cast ((q (i-8)).toNat):Int),iv IntKind.i64 (Nat.cast ((q (i-8)).toNat):Int),iv IntKind.i64 (Nat.cast ((q (i-8)).toNat):Int)] [] 1 (iv IntKind.i64 (meR (Nat.cast ((q (i-8)).toNat):Int) (Nat.cast ((q (i-8)).toNat):Int) (Nat.cast ((q (i-8)).toNat):Int))) [] 0∧Le (iv IntKind.u8 (IntKind.u8.wrap (meR (Nat.cast ((q (i-8)).toNat):Int) (Nat.cast ((q (i-8)).toNat):Int) (Nat.cast ((q (i-8)).toNat):Int)))) (iv IntKind.u8 (meR (Nat.cast ((q (i-8)).toNat):Int) (Nat.cast ((q (i-8)).toNat):Int) (Nat.cast ((q (i-8)).toNat):Int)))∧Le (iv IntKind.u8 (meR (Nat.cast ((q (i-8)).toNat):Int) (Nat.cast ((q (i-8)).toNat):Int) (Nat.cast ((q (i-8)).toNat):Int))) (iv IntKind.u8 (prd k (Nat.cast ((q (i-8)).toNat):Int) (Nat.cast ((q (i-8)).toNat):Int) (Nat.cast ((q (i-8)).toNat):Int)))∧True) (Le (iv IntKind.u8 0) (iv IntKind.u8 (prd k (Nat.cast ((q (i-8)).toNat):Int) (Nat.cast ((q (i-8)).toNat):Int) (Nat.cast ((q (i-8)).toNat):Int)))∧True)))))) (by kernel_rfl)
 repeat' (first|exact trivial|with_reducible apply And.intro|(with_reducible apply HB.mk)|with_reducible intro _)
 all_goals first
  |(with_reducible assumption)
  |(with_reducible exact Le.refl _)
  |(with_reducible rfl)
  |(((with_reducible refine C192 _ _ _ ?_ ?_ ?_ _)<;>omega))
  |(((with_reducible refine C193 _ _ _ ?_ ?_ ?_ _)<;>omega))
  |(exact ⟨by omega,by omega⟩)
  |(omega)
  |((exact okw _ (by omega) (by omega)))
  |((refine Le.int ?_;exact okw _ (by omega) (by omega)))
  |((refine Le.int ?_;exact w8p (by omega)))
  |((refine Le.int ?_;exact w8p (pa_bd (by omega) (by omega) (by omega))))
  |((refine Le.int ?_;exact w8p (me_bd (by omega) (by omega) (by omega))))
  |((refine Le.of ?_;simp only[Nat.zero_add,Nat.add_zero,Nat.mul_one];exact tbU (i:=i) q _ _ (by omega) (by omega)))
  |(with_reducible exact Le.int (pr_1 (l:=((q (i-8)).toNat:Nat)) (u:=((q (i-8)).toNat:Nat)) (c:=((q (i-8)).toNat:Nat)) (by with_reducible assumption)))
  |(with_reducible exact Le.int (pr_2 (l:=((q (i-8)).toNat:Nat)) (u:=((q (i-8)).toNat:Nat)) (c:=((q (i-8)).toNat:Nat)) (by with_reducible assumption)))
  |(with_reducible exact Le.int (pr_3 (l:=((q (i-8)).toNat:Nat)) (u:=((q (i-8)).toNat:Nat)) (c:=((q (i-8)).toNat:Nat)) (by omega) (by omega) (by with_reducible assumption)))
  |(with_reducible exact Le.int (pr_4 (l:=((q (i-8)).toNat:Nat)) (u:=((q (i-8)).toNat:Nat)) (c:=((q (i-8)).toNat:Nat)) (by with_reducible assumption)))
  |(with_reducible exact Le.int (pr_5 (l:=((q (i-8)).toNat:Nat)) (u:=((q (i-8)).toNat:Nat)) (c:=((q (i-8)).toNat:Nat)) (by with_reducible assumption)))
  |(with_reducible exact Le.int (pr_0 (l:=((q (i-8)).toNat:Nat)) (u:=((q (i-8)).toNat:Nat)) (c:=((q (i-8)).toNat:Nat)) h0 hk (by with_reducible assumption) (by with_reducible assumption) (by with_reducible assumption) (by with_reducible assumption) (by with_reducible assumption)))
  |((refine Le.int ?_;omega))
  |((refine Le.bool (decide_eq_true ?_);omega))
  |((refine Le.bool (decide_eq_false ?_);omega))
  |((refine Le.bool ?_;simp;omega))
  |((rw[tb_len];omega))
  |(exact okw _ (by omega) (by omega))
  |(exact Le.of rfl)
  |(exact BkR.of rfl)
  |(unfold SlOK;omega)
  |(unfold SlOK;decide)
  |(unfold inByte;decide)
  |(simp only[*,Bool.and_self,Bool.not_false,Bool.not_true];done)
  |(simp_all [wants];done)
def cz_C167D (q:Nat→UInt8) (i:Nat) (k:Int):Cz:={
 ct:=(fun f=>match f with
 |192=>some fun _ _S ar=>match ar with | [.c (.l (.v (.int _ l))),.c (.l (.v (.int _ u))),.c (.l (.v (.int _ c)))]=>some {v:=iv .i64 (paR l u c),rd:=[],wr:=[],nw:=0}|_=>none
 |193=>some fun _ _S ar=>match ar with | [.c (.l (.v (.int _ l))),.c (.l (.v (.int _ u))),.c (.l (.v (.int _ c)))]=>some {v:=iv .i64 (meR l u c),rd:=[],wr:=[],nw:=0}|_=>none
 |_=>none)
 eq:=(fun t=>match t with
 |_=>none)
 raw:=[],sym:=[17,18,24,25,35,36],nf:=[(19,iv .i64 ((q (i-8)).toNat:Nat)),(26,iv .i64 ((q (i-1)).toNat:Nat)),(37,iv .i64 ((q (i-9)).toNat:Nat)),(54,iv .u8 ((q (i-1)).toNat:Nat)),(58,iv .u8 ((q (i-8)).toNat:Nat)),(65,iv .u8 ((((q (i-1)).toNat:Nat)+((q (i-8)).toNat:Nat):Int).tdiv 2)),(72,iv .u8 (paR ((q (i-1)).toNat:Nat) ((q (i-8)).toNat:Nat) ((q (i-9)).toNat:Nat))),(79,iv .u8 (meR ((q (i-1)).toNat:Nat) ((q (i-8)).toNat:Nat) ((q (i-9)).toNat:Nat))),(12,iv .i64 ((i % 8:Nat):Nat)),(18,.c (.l (ub (q (i-8))))),(25,.c (.l (ub (q (i-1))))),(36,.c (.l (ub (q (i-9))))),(14,bv true),(21,bv true),(32,bv true),(39,bv false),(47,bv false)],ap:=true,off:=[],on:=[],lp:=fun _=>none,un:=0,wh:=[189]}
set_option maxRecDepth 100000 in
set_option maxHeartbeats 4000000 in
theorem C167D (q:Nat→UInt8) (i:Nat) (k:Int) (h0:0≤k) (hk:k<6) (hi:8≤i) (hj:i<64) (hx:i % 8≠0) (n:Nat):CallOK Tryz.prog 167 [.c (.agg (tb q 64)),iv .i64 (i:Nat),iv .i64 k] [] n (iv .u8 (prd k ((q (i-1)).toNat:Nat) ((q (i-8)).toNat:Nat) ((q (i-9)).toNat:Nat))) [] 0:=by
 refine CallOK.any ?_ (by kernel_rfl) (by kernel_rfl) n
 have b1:=(q (i-1)).toNat_lt
 have b8:=(q (i-8)).toNat_lt
 have b9:=(q (i-9)).toNat_lt
 have hm:=Int.tmod_eq_emod_of_nonneg (b:=8) (show (0:Int)≤((i:Nat):Int) by omega)
 have htd:=Int.tdiv_eq_ediv_of_nonneg (b:=2) (show (0:Int)≤((q (i-1)).toNat:Nat)+((q (i-8)).toNat:Nat) by omega)
 refine call_ok (cx:=cz_C167D q i k) (nm:=[]) rfl Tryz.func167 (body:=Tryz.f167.body.getD .skip) rfl enters167 (by kernel_rfl) ?_
 apply of_eq (q:=(8:Int)≠0∧Le (iv IntKind.i64 (((Nat.cast i:Int)).tmod 8)) (iv IntKind.i64 (Nat.cast ((i % 8)):Int))∧Le (bv (decide ((Nat.cast i:Int)≥8))) (bv true)∧IntKind.i64.wrap ((Nat.cast i:Int)-8)=(Nat.cast i:Int)-8∧InR ((Nat.cast i:Int)-8) 64∧0+((Nat.cast i:Int)-8).toNat*1<64∧Le (SV.c (Cp.l ((tb q 64).getD (0+((Nat.cast i:Int)-8).toNat*1) Leaf.u))) (iv IntKind.u8 (Nat.cast ((q (i-8)).toNat):Int))∧Le (iv IntKind.i64 (IntKind.i64.wrap (Nat.cast ((q (i-8)).toNat):Int))) (iv IntKind.i64 (Nat.cast ((q (i-8)).toNat):Int))∧Le (bv (decide ((Nat.cast ((i % 8)):Int)>0))) (bv true)∧IntKind.i64.wrap ((Nat.cast i:Int)-1)=(Nat.cast i:Int)-1∧InR ((Nat.cast i:Int)-1) 64∧0+((Nat.cast i:Int)-1).toNat*1<64∧Le (SV.c (Cp.l ((tb q 64).getD (0+((Nat.cast i:Int)-1).toNat*1) Leaf.u))) (iv IntKind.u8 (Nat.cast ((q (i-1)).toNat):Int))∧Le (iv IntKind.i64 (IntKind.i64.wrap (Nat.cast ((q (i-1)).toNat):Int))) (iv IntKind.i64 (Nat.cast ((q (i-1)).toNat):Int))∧(decide ((Nat.cast ((i % 8)):Int)>0)=true→decide ((Nat.cast ((i % 8)):Int)>0)=true∧True)∧(decide ((Nat.cast ((i % 8)):Int)>0)=true→decide ((Nat.cast ((i % 8)):Int)>0)=true)∧Le (bv (bif decide ((Nat.cast ((i % 8)):Int)>0) then decide ((Nat.cast i:Int)≥8) else false)) (bv true)∧IntKind.i64.wrap ((Nat.cast i:Int)-9)=(Nat.cast i:Int)-9∧InR ((Nat.cast i:Int)-9) 64∧0+((Nat.cast i:Int)-9).toNat*1<64∧Le (SV.c (Cp.l ((tb q 64).getD (0+((Nat.cast i:Int)-9).toNat*1) Leaf.u))) (iv IntKind.u8 (Nat.cast ((q (i-9)).toNat):Int))∧Le (iv IntKind.i64 (IntKind.i64.wrap (Nat.cast ((q (i-9)).toNat):Int))) (iv IntKind.i64 (Nat.cast ((q (i-9)).toNat):Int))∧Le (bv ((Nat.cast ((i % 8)):Int)==0)) (bv false)∧(decide ((Nat.cast i:Int)<8)=true→decide ((Nat.cast i:Int)<8)=true∧True)∧(decide ((Nat.cast i:Int)<8)=true→decide ((Nat.cast i:Int)<8)=true)∧Le (bv (bif decide ((Nat.cast i:Int)<8) then decide ((Nat.cast ((i % 8)):Int)>0) else false)) (bv false)∧HB (k==1) (Le (iv IntKind.u8 (IntKind.u8.wrap (Nat.cast ((q (i-1)).toNat):Int))) (iv IntKind.u8 (Nat.cast ((q (i-1)).toNat):Int))∧Le (iv IntKind.u8 (Nat.cast ((q (i-1)).toNat):Int)) (iv IntKind.u8 (prd k (Nat.cast ((q (i-1)).toNat):Int) (Nat.cast ((q (i-8)).toNat):Int) (Nat.cast ((q (i-9)).toNat):Int)))∧True) (HB (k==2) (Le (iv IntKind.u8 (IntKind.u8.wrap (Nat.cast ((q (i-8)).toNat):Int))) (iv IntKind.u8 (Nat.cast ((q (i-8)).toNat):Int))∧Le (iv IntKind.u8 (Nat.cast ((q (i-8)).toNat):Int)) (iv IntKind.u8 (prd k (Nat.cast ((q (i-1)).toNat):Int) (Nat.cast ((q (i-8)).toNat):Int) (Nat.cast ((q (i-9)).toNat):Int)))∧True) (HB (k==3) (IntKind.i64.wrap ((Nat.cast ((q (i-1)).toNat):Int)+(Nat.cast ((q (i-8)).toNat):Int))=(Nat.cast ((q (i-1)).toNat):Int)+(Nat.cast ((q (i-8)).toNat):Int)∧(2:Int)≠0∧IntKind.i64.wrap (((Nat.cast ((q (i-1)).toNat):Int)+(Nat.cast ((q (i-8)).toNat):Int)).tdiv 2)=((Nat.cast ((q (i-1)).toNat):Int)+(Nat.cast ((q (i-8)).toNat):Int)).tdiv 2∧Le (iv IntKind.u8 (IntKind.u8.wrap (((Nat.cast ((q (i-1)).toNat):Int)+(Nat.cast ((q (i-8)).toNat):Int)).tdiv 2))) (iv IntKind.u8 (((Nat.cast ((q (i-1)).toNat):Int)+(Nat.cast ((q (i-8)).toNat):Int)).tdiv 2))∧Le (iv IntKind.u8 (((Nat.cast ((q (i-1)).toNat):Int)+(Nat.cast ((q (i-8)).toNat):Int)).tdiv 2)) (iv IntKind.u8 (prd k (Nat.cast ((q (i-1)).toNat):Int) (Nat.cast ((q (i-8)).toNat):Int) (Nat.cast ((q (i-9)).toNat):Int)))∧True) (HB (k==4) (CallOKd Tryz.prog 192 [] [iv IntKind.i64 (Nat.cast ((q (i-1)).toNat):Int),iv IntKind.i64 (Nat.cast ((q (i-8)).toNat):Int),iv IntKind.i64 (Nat.cast ((q (i-9)).toNat):Int)] [] 1 (iv IntKind.i64 (paR (Nat.cast ((q (i-1)).toNat):Int) (Nat.cast ((q (i-8)).toNat):Int) (Nat.cast ((q (i-9)).toNat):Int))) [] 0∧Le (iv IntKind.u8 (IntKind.u8.wrap (paR (Nat.cast ((q (i-1)).toNat):Int) (Nat.cast ((q (i-8)).toNat):Int) (Nat.cast ((q (i-9)).toNat):Int)))) (iv IntKind.u8 (paR (Nat.cast ((q (i-1)).toNat):Int) (Nat.cast ((q (i-8)).toNat):Int) (Nat.cast ((q (i-9)).toNat):Int)))∧Le (iv IntKind.u8 (paR (Nat.cast ((q (i-1)).toNat):Int) (Nat.cast ((q (i-8)).toNat):Int) (Nat.cast ((q (i-9)).toNat):Int))) (iv IntKind.u8 (prd k (Nat.cast ((q (i-1)).toNat):Int) (Nat.cast ((q (i-8)).toNat):Int) (Nat.cast ((q (i-9)).toNat):Int)))∧True) (HB (k==5) (CallOKd Tryz.prog 193 [] [iv IntKind.i64 (Nat.cast ((q (i-1)).toNat):Int),iv IntKind.i64 (Nat.cast ((q (i-8)).toNat):Int),iv IntKind.i64 (Nat.cast ((q (i-9)).toNat):Int)] [] 1 (iv IntKind.i64 (meR (Nat.cast ((q (i-1)).toNat):Int) (Nat.cast ((q (i-8)).toNat):Int) (Nat.cast ((q (i-9)).toNat):Int))) [] 0∧Le (iv IntKind.u8 (IntKind.u8.wrap (meR (Nat.cast ((q (i-1)).toNat):Int) (Nat.cast ((q (i-8)).toNat):Int) (Nat.cast ((q (i-9)).toNat):Int)))) (iv IntKind.u8 (meR (Nat.cast ((q (i-1)).toNat):Int) (Nat.cast ((q (i-8)).toNat):Int) (Nat.cast ((q (i-9)).toNat):Int)))∧Le (iv IntKind.u8 (meR (Nat.cast ((q (i-1)).toNat):Int) (Nat.cast ((q (i-8)).toNat):Int) (Nat.cast ((q (i-9)).toNat):Int))) (iv IntKind.u8 (prd k (Nat.cast ((q (i-1)).toNat):Int) (Nat.cast ((q (i-8)).toNat):Int) (Nat.cast ((q (i-9)).toNat):Int)))∧True) (Le (iv IntKind.u8 0) (iv IntKind.u8 (prd k (Nat.cast ((q (i-1)).toNat):Int) (Nat.cast ((q (i-8)).toNat):Int) (Nat.cast ((q (i-9)).toNat):Int)))∧True)))))) (by kernel_rfl)
 repeat' (first|exact trivial|with_reducible apply And.intro|(with_reducible apply HB.mk)|with_reducible intro _)
 all_goals first
  |(with_reducible assumption)
  |(with_reducible exact Le.refl _)
  |(with_reducible rfl)
  |(((with_reducible refine C192 _ _ _ ?_ ?_ ?_ _)<;>omega))
  |(((with_reducible refine C193 _ _ _ ?_ ?_ ?_ _)<;>omega))
  |(exact ⟨by omega,by omega⟩)
  |(omega)
  |((exact okw _ (by omega) (by omega)))
  |((refine Le.int ?_;exact okw _ (by omega) (by omega)))
  |((refine Le.int ?_;exact w8p (by omega)))
  |((refine Le.int ?_;exact w8p (pa_bd (by omega) (by omega) (by omega))))
  |((refine Le.int ?_;exact w8p (me_bd (by omega) (by omega) (by omega))))
  |((refine Le.of ?_;simp only[Nat.zero_add,Nat.add_zero,Nat.mul_one];exact tbU (i:=i) q _ _ (by omega) (by omega)))
  |(with_reducible exact Le.int (pr_1 (l:=((q (i-1)).toNat:Nat)) (u:=((q (i-8)).toNat:Nat)) (c:=((q (i-9)).toNat:Nat)) (by with_reducible assumption)))
  |(with_reducible exact Le.int (pr_2 (l:=((q (i-1)).toNat:Nat)) (u:=((q (i-8)).toNat:Nat)) (c:=((q (i-9)).toNat:Nat)) (by with_reducible assumption)))
  |(with_reducible exact Le.int (pr_3 (l:=((q (i-1)).toNat:Nat)) (u:=((q (i-8)).toNat:Nat)) (c:=((q (i-9)).toNat:Nat)) (by omega) (by omega) (by with_reducible assumption)))
  |(with_reducible exact Le.int (pr_4 (l:=((q (i-1)).toNat:Nat)) (u:=((q (i-8)).toNat:Nat)) (c:=((q (i-9)).toNat:Nat)) (by with_reducible assumption)))
  |(with_reducible exact Le.int (pr_5 (l:=((q (i-1)).toNat:Nat)) (u:=((q (i-8)).toNat:Nat)) (c:=((q (i-9)).toNat:Nat)) (by with_reducible assumption)))
  |(with_reducible exact Le.int (pr_0 (l:=((q (i-1)).toNat:Nat)) (u:=((q (i-8)).toNat:Nat)) (c:=((q (i-9)).toNat:Nat)) h0 hk (by with_reducible assumption) (by with_reducible assumption) (by with_reducible assumption) (by with_reducible assumption) (by with_reducible assumption)))
  |((refine Le.int ?_;omega))
  |((refine Le.bool (decide_eq_true ?_);omega))
  |((refine Le.bool (decide_eq_false ?_);omega))
  |((refine Le.bool ?_;simp;omega))
  |((rw[tb_len];omega))
  |(exact okw _ (by omega) (by omega))
  |(exact Le.of rfl)
  |(exact BkR.of rfl)
  |(unfold SlOK;omega)
  |(unfold SlOK;decide)
  |(unfold inByte;decide)
  |(simp only[*,Bool.and_self,Bool.not_false,Bool.not_true];done)
  |(simp_all [wants];done)
end Ab
end Go.Proofs.YtpdckpifhniioaaGreat
end
section
set_option linter.unusedVariables false
set_option linter.unusedSimpArgs false
namespace Go.Proofs.YtpdckpifhniioaaGreat
open Go.RowKit
namespace Ab
attribute [local irreducible] CallOKd
attribute [local irreducible] tl rws
def resR (k:Int) (t:Nat→UInt8) (j:Nat):UInt8:=Prd.M.res k.toNat (plnF t) j
def plR (t:Nat→UInt8) (j:Nat):Nat→UInt8:=Prd.M.pl (plnF t) j
theorem C167g (q:Nat→UInt8) (i:Nat) (k:Int) (h0:0≤k) (hk:k<6) (hi:i<64) (n:Nat):CallOK Tryz.prog 167 [.c (.agg (tb q 64)),iv .i64 (i:Nat),iv .i64 k] [] n (iv .u8 ((gsR k q i).toNat:Nat)) [] 0:=by
 have e:((gsR k q i).toNat:Int)=prd k (Prd.M.nbL q i) (Prd.M.nbU q i) (Prd.M.nbC q i):=Prd.M.gs_val _ _ _
 rw[e]
 unfold Prd.M.nbL Prd.M.nbU Prd.M.nbC
 by_cases h1:i=0
 ·rw[if_pos h1,if_pos h1,if_pos h1];exact C167A q i k h0 hk h1 n
 ·rw[if_neg h1,if_neg h1,if_neg h1]
  by_cases h2:i<8
  ·rw[if_pos h2,if_pos h2,if_pos h2];exact C167B q i k h0 hk (by omega) h2 n
  ·rw[if_neg h2,if_neg h2,if_neg h2]
   by_cases h3:i % 8=0
   ·rw[if_pos h3,if_pos h3];exact C167C q i k h0 hk (by omega) hi h3 n
   ·rw[if_neg h3,if_neg h3];exact C167D q i k h0 hk (by omega) hi h3 n
theorem tb_snoc (t:Nat→UInt8) (m:Nat):tb t m++[ub (t m)]=tb t (m+1):=by
 unfold tb
 rw[List.range_succ,List.map_append];rfl
theorem res_at (k:Int) (t:Nat→UInt8) {j i:Nat} (hi:i<64):IntKind.u8.wrap (((plnF t (64*j+i)).toNat:Nat)-((gsR k (plR t j) i).toNat:Nat))=((resR k t (64*j+i)).toNat:Nat):=by
 rw[wsub8]
 unfold resR Prd.M.res
 rw[show (64*j+i) / 64=j by omega,show (64*j+i) % 64=i by omega]
 rfl
theorem tl_64 (t:Nat→UInt8) {j:Nat} (hj:j<4):List.take 64 (List.drop (j*64) (tl (plnF t)))=tb (plR t j) 64:=by
 apply List.ext_getElem?
 intro i
 by_cases hi:i<64
 ·rw[List.getElem?_take_of_lt hi,List.getElem?_drop,tl_at _ (by omega)]
  unfold tb plR Prd.M.pl
  simp[hi]
  rw[show j*64+i=64*j+i by omega]
 ·rw[List.getElem?_eq_none (by rw[List.length_take];omega),List.getElem?_eq_none (by rw[tb_len];omega)]
theorem tl_ji (f:Nat→UInt8) {j i:Nat} (hj:j<4) (hi:i<64):SV.c (.l ((tl f).getD (j*64+i) .u))=.c (.l (ub (f (64*j+i)))):=by
 rw[tl_getD f (by omega),show j*64+i=64*j+i by omega]
def I134i (t:Nat→UInt8) (k:Int) (j i:Nat):St:=⟨[(8,iv .i64 (i:Nat)),(7,iv .i64 (j:Nat)),(6,.c (.l (.o 3 (64*j+i)))),(5,.c (.l (.p 2 0))),(1,iv .i64 k),(4,.c (.l (.p 1 0)))],[(0,some ⟨tl t,.t 38⟩),(1,some ⟨[.v (.string ⟨#[]⟩),.v (.int .i64 0)],.t 177⟩),(2,some ⟨tl (plnF t),.t 211⟩),(3,some ⟨tb (resR k t) (64*j+i),.r 5 1 3⟩)],4,45,[3,2,1,0],(0)⟩
def I134 (t:Nat→UInt8) (k:Int) (j:Nat):St:=⟨[(7,iv .i64 (j:Nat)),(6,.c (.l (.o 3 (64*j)))),(5,.c (.l (.p 2 0))),(1,iv .i64 k),(4,.c (.l (.p 1 0)))],[(0,some ⟨tl t,.t 38⟩),(1,some ⟨[.v (.string ⟨#[]⟩),.v (.int .i64 0)],.t 177⟩),(2,some ⟨tl (plnF t),.t 211⟩),(3,some ⟨tb (resR k t) (64*j),.r 5 1 3⟩)],4,45,[3,2,1,0],(0)⟩
def cz_R134i (t:Nat→UInt8) (p:Int) (j:Nat) (k:Nat):Cz:={
 ct:=(fun f=>match f with
 |167=>some fun _ _S ar=>match ar with | [_,.c (.l (.v (.int _ i))),_]=>some {v:=iv .u8 ((gsR p (plR t j) k).toNat:Nat),rd:=[],wr:=[],nw:=0}|_=>none
 |_=>none)
 eq:=(fun t=>match t with
 |_=>none)
 raw:=[39],sym:=[30,31,32,34,35,41],nf:=[(32,.c (.l (ub (plnF t (64*j+k))))),(35,.c (.agg (tb (plR t j) 64))),(39,iv .u8 ((resR p t (64*j+k)).toNat:Nat))],ap:=true,off:=[],on:=[],lp:=fun _=>none,un:=0}
set_option maxRecDepth 100000 in
theorem R134i (t:Nat→UInt8) (p:Int) (j:Nat) (k:Nat)  (K:Exit→St→Prop) (h:HB (decide ((Nat.cast k:Int)<64)) ((InR ((Nat.cast j:Int)) 4∧InR ((Nat.cast k:Int)) 64∧0+((Nat.cast j:Int)).toNat*64+((Nat.cast k:Int)).toNat*1<256∧Le (SV.c (Cp.l ((tl (plnF t)).getD (0+((Nat.cast j:Int)).toNat*64+((Nat.cast k:Int)).toNat*1) Leaf.u))) (iv IntKind.u8 (Nat.cast ((plnF t (64*j+k)).toNat):Int))∧InR ((Nat.cast j:Int)) 4∧0+((Nat.cast j:Int)).toNat*64+64≤256∧Le (ag (List.take 64 (List.drop (0+((Nat.cast j:Int)).toNat*64) (tl (plnF t))))) (ag (tb (plR t j) 64))∧CallOKd Tryz.prog 167 [] [ag (tb (plR t j) 64),iv IntKind.i64 (Nat.cast k:Int),iv IntKind.i64 p] [] 4 (iv IntKind.u8 (Nat.cast ((gsR p (plR t j) k).toNat):Int)) [] 0∧Le (iv IntKind.u8 (IntKind.u8.wrap ((Nat.cast ((plnF t (64*j+k)).toNat):Int)-(Nat.cast ((gsR p (plR t j) k).toNat):Int)))) (iv IntKind.u8 (Nat.cast ((resR p t (64*j+k)).toNat):Int))∧(tb (resR p t) (64*j+k)).length=(64*j+k)*1∧1=1∧IntKind.i64.wrap ((Nat.cast k:Int)+1)=(Nat.cast k:Int)+1∧RoundTo Tryz.prog ((getLoop 9 (Tryz.f134.body.getD Code.skip)).getD Code.skip) 4 (wkK 4 K) (St.mk [(1,iv IntKind.i64 p),(4,SV.c (Cp.l (Leaf.p 1 0))),(5,SV.c (Cp.l (Leaf.p 2 0))),(6,SV.c (Cp.l (Leaf.o 3 (64*j+k+1)))),(7,iv IntKind.i64 (Nat.cast j:Int)),(8,iv IntKind.i64 ((Nat.cast k:Int)+1))] [(0,some (Blk.mk (tl t) (BT.t 38))),(1,some (Blk.mk [Leaf.v (Value.string (ByteArray.mk #[])),li 0] (BT.t 177))),(2,some (Blk.mk (tl (plnF t)) (BT.t 211))),(3,some (Blk.mk (tb (resR p t) (64*j+k)++[Leaf.v (Value.int IntKind.u8 (Nat.cast ((resR p t (64*j+k)).toNat):Int))]) (BT.r 5 1 3))),(4,some (Blk.mk [Leaf.v (Value.int IntKind.u8 (Nat.cast ((resR p t (64*j+k)).toNat):Int))] (BT.r 5 1 4))),(5,none)] 5 45 [3,4,3,2,1,0] 0))∧InR ((Nat.cast j:Int)) 4∧InR ((Nat.cast k:Int)) 64∧0+((Nat.cast j:Int)).toNat*64+((Nat.cast k:Int)).toNat*1<256∧Le (SV.c (Cp.l ((tl (plnF t)).getD (0+((Nat.cast j:Int)).toNat*64+((Nat.cast k:Int)).toNat*1) Leaf.u))) (iv IntKind.u8 (Nat.cast ((plnF t (64*j+k)).toNat):Int))∧InR ((Nat.cast j:Int)) 4∧0+((Nat.cast j:Int)).toNat*64+64≤256∧Le (ag (List.take 64 (List.drop (0+((Nat.cast j:Int)).toNat*64) (tl (plnF t))))) (ag (tb (plR t j) 64))∧CallOKd Tryz.prog 167 [] [ag (tb (plR t j) 64),iv IntKind.i64 (Nat.cast k:Int),iv IntKind.i64 p] [] 4 (iv IntKind.u8 (Nat.cast ((gsR p (plR t j) k).toNat):Int)) [] 0∧Le (iv IntKind.u8 (IntKind.u8.wrap ((Nat.cast ((plnF t (64*j+k)).toNat):Int)-(Nat.cast ((gsR p (plR t j) k).toNat):Int)))) (iv IntKind.u8 (Nat.cast ((resR p t (64*j+k)).toNat):Int))∧[(3,64*j+k+1,false)]=[(3,64*j+k+1,false)]∧ApB Tryz.prog 5 (64*j+k+1)∧(tb (resR p t) (64*j+k)).length=(64*j+k)*1∧1=1∧IntKind.i64.wrap ((Nat.cast k:Int)+1)=(Nat.cast k:Int)+1∧RoundTo Tryz.prog ((getLoop 9 (Tryz.f134.body.getD Code.skip)).getD Code.skip) 4 (wkK 4 K) (St.mk [(1,iv IntKind.i64 p),(4,SV.c (Cp.l (Leaf.p 1 0))),(5,SV.c (Cp.l (Leaf.p 2 0))),(6,SV.c (Cp.l (Leaf.o 5 (64*j+k+1)))),(7,iv IntKind.i64 (Nat.cast j:Int)),(8,iv IntKind.i64 ((Nat.cast k:Int)+1))] [(0,some (Blk.mk (tl t) (BT.t 38))),(1,some (Blk.mk [Leaf.v (Value.string (ByteArray.mk #[])),li 0] (BT.t 177))),(2,some (Blk.mk (tl (plnF t)) (BT.t 211))),(3,some (Blk.mk (tb (resR p t) (64*j+k)) (BT.r 5 1 3))),(4,some (Blk.mk [Leaf.v (Value.int IntKind.u8 (Nat.cast ((resR p t (64*j+k)).toNat):Int))] (BT.r 5 1 4))),(5,some (Blk.mk (tb (resR p t) (64*j+k)++[Leaf.v (Value.int IntKind.u8 (Nat.cast ((resR p t (64*j+k)).toNat):Int))]) (BT.r 5 1 5)))] 6 45 [5,4,3,2,1,0] 0)) (wkK 4 K (Exit.exit 2) (St.mk [(1,iv IntKind.i64 p),(4,SV.c (Cp.l (Leaf.p 1 0))),(5,SV.c (Cp.l (Leaf.p 2 0))),(6,SV.c (Cp.l (Leaf.o 3 (64*j+k)))),(7,iv IntKind.i64 (Nat.cast j:Int)),(8,iv IntKind.i64 (Nat.cast k:Int))] [(0,some (Blk.mk (tl t) (BT.t 38))),(1,some (Blk.mk [Leaf.v (Value.string (ByteArray.mk #[])),li 0] (BT.t 177))),(2,some (Blk.mk (tl (plnF t)) (BT.t 211))),(3,some (Blk.mk (tb (resR p t) (64*j+k)) (BT.r 5 1 3))),(4,none),(5,none)] 4 45 [3,2,1,0] 0))):WPL Tryz.prog ((getLoop 9 (Tryz.f134.body.getD .skip)).getD .skip) (I134i t p j k) (wkK 4 K):=
 wp_roundT [1,4,5,6,7,8] [0,1,2,3,4,5] (cx:=cz_R134i t p j k) rfl (of_eq (by kernel_rfl) h)
set_option maxRecDepth 100000 in
set_option maxHeartbeats 4000000 in
theorem L134i (t:Nat→UInt8) (p:Int) (j:Nat) (h0:0≤p) (hp:p<6) (hj:j<4):∀(m k:Nat),64-k=m→k≤64→∀(K:Exit→St→Prop),K (.exit 2) (I134i t p j 64)→WPL Tryz.prog ((getLoop 9 (Tryz.f134.body.getD .skip)).getD .skip) (I134i t p j k) (wkK 4 K)
 |0,k,hm,hk,K,hK=>by
  have e:k=64:=by omega
  subst e
  refine R134i t p j _ K (HB.mk (fun hne=>absurd (of_decide_eq_true hne) (by omega)) (fun he=>?_))
  exact wkK.to (I134i t p j _) (Nat.le_refl _) (by kernel_rfl) (wkE_cons (LeN.sl (by kernel_rfl) rfl) (wkE_cons (LeN.sl (by kernel_rfl) rfl) (wkE_cons (LeN.sl (by kernel_rfl) rfl) (wkE_cons (LeN.sl (by kernel_rfl) rfl) (wkE_cons (LeN.sl (by kernel_rfl) rfl) (wkE_cons (LeN.sl (by kernel_rfl) rfl) trivial)))))) (wkH_cons (BkN.plain (cs:=tl t) (b:=.t 38) (by kernel_rfl) (rfl) (plain_tl t) (by kernel_rfl)) (wkH_cons (BkN.blk (k:=⟨[.v (.string ⟨#[]⟩),.v (.int .i64 0)],.t 177⟩) (by kernel_rfl) (rfl) (by kernel_rfl)) (wkH_cons (BkN.plain (cs:=tl (plnF t)) (b:=.t 211) (by kernel_rfl) (rfl) (plain_tl _) (by kernel_rfl)) (wkH_cons (BkN.plain (cs:=tb (resR p t) (64*j+64)) (b:=.r 5 1 3) (by kernel_rfl) (rfl) (tb_plain _ _) (by kernel_rfl)) trivial)))) hK
 |m+1,k,hm,hk,K,hK=>by
  refine R134i t p j k K (HB.mk (fun hne=>?_) (fun he=>absurd (show ((k:Nat):Int)<(64:Nat) by omega) (of_decide_eq_false he)))
  have hlt:k<64:=by omega
  repeat' (first|exact trivial|with_reducible apply And.intro|(with_reducible apply HB.mk)|with_reducible intro _)
  all_goals first
   |(with_reducible assumption)
   |(with_reducible exact Le.refl _)
   |(with_reducible rfl)
   |(((with_reducible refine C167g _ _ _ ?_ ?_ ?_ _)<;>omega))
   |(exact ⟨by omega,by omega⟩)
   |((rw[tb_len];omega))
   |(omega)
   |(exact apB (bytes:=1) (by kernel_rfl) (by omega))
   |((exact okw _ (by omega) (by omega)))
   |((refine Le.of ?_;simp only[tn,Nat.zero_add,Nat.add_zero,Nat.mul_one];exact tl_ji _ hj hlt))
   |((refine Le.of ?_;simp only[tn,Nat.zero_add,Nat.add_zero,Nat.mul_one];exact congrArg (fun l=>SV.c (.agg l)) (tl_64 t hj)))
   |(with_reducible exact Le.int (res_at p t hlt))
   |((with_reducible refine RoundTo.toN 5 (I134i t p j (k+1)) ?_ ?_ ?_ ?_ ?_);exact Nat.le_refl _;kernel_rfl;exact (wkE_cons (LeN.sl (by kernel_rfl) rfl) (wkE_cons (LeN.sl (by kernel_rfl) rfl) (wkE_cons (LeN.sl_o (m:=64*j+k+1) (by kernel_rfl) rfl (by omega)) (wkE_cons (LeN.sl (by kernel_rfl) rfl) (wkE_cons (LeN.sl (by kernel_rfl) rfl) (wkE_cons (LeN.sl (by kernel_rfl) rfl) trivial))))));exact (wkH_cons (BkN.plain (cs:=tl t) (b:=.t 38) (by kernel_rfl) (rfl) (plain_tl t) (by kernel_rfl)) (wkH_cons (BkN.blk (k:=⟨[.v (.string ⟨#[]⟩),.v (.int .i64 0)],.t 177⟩) (by kernel_rfl) (rfl) (by kernel_rfl)) (wkH_cons (BkN.plain (cs:=tl (plnF t)) (b:=.t 211) (by kernel_rfl) (rfl) (plain_tl _) (by kernel_rfl)) (wkH_cons (BkN.plain (cs:=tb (resR p t) (64*j+k)++[ub (resR p t (64*j+k))]) (b:=.r 5 1 3) (by kernel_rfl) (tb_snoc _ _) (tb_plain _ _) (by kernel_rfl)) trivial))));exact (L134i t p j h0 hp hj m (k+1) (by omega) (by omega) K hK))
   |((with_reducible refine RoundTo.reN 6 [(3,some 5)] (I134i t p j (k+1)) ?_ ?_ ?_ ?_);kernel_rfl;exact (wkER_cons (LeR.of (by kernel_rfl)) (wkER_cons (LeR.of (by kernel_rfl)) (wkER_cons (LeR.sl_o (j:=5) (m:=64*j+k+1) (by kernel_rfl) rfl (by omega)) (wkER_cons (LeR.of (by kernel_rfl)) (wkER_cons (LeR.of (by kernel_rfl)) (wkER_cons (LeR.of (by kernel_rfl)) trivial))))));exact (wkHR_cons (j:=0) rfl (BkM.plain (cs:=tl t) (b:=.t 38) (by kernel_rfl) (rfl) (plain_tl t) (by kernel_rfl)) (wkHR_cons (j:=1) rfl (BkM.blk (k:=⟨[.v (.string ⟨#[]⟩),.v (.int .i64 0)],.t 177⟩) (k'':=⟨[.v (.string ⟨#[]⟩),.v (.int .i64 0)],.t 177⟩) (by kernel_rfl) (by kernel_rfl) rfl) (wkHR_cons (j:=2) rfl (BkM.plain (cs:=tl (plnF t)) (b:=.t 211) (by kernel_rfl) (rfl) (plain_tl _) (by kernel_rfl)) (wkHR_cons (j:=5) rfl (BkM.plain (cs:=tb (resR p t) (64*j+k)++[ub (resR p t (64*j+k))]) (b:=.r 5 1 5) (by kernel_rfl) (tb_snoc _ _) (tb_plain _ _) (by kernel_rfl)) trivial))));exact (L134i t p j h0 hp hj m (k+1) (by omega) (by omega) K hK))
   |(exact okw _ (by omega) (by omega))
   |(exact Le.of rfl)
   |(exact BkR.of rfl)
   |(unfold SlOK;omega)
   |(unfold SlOK;decide)
   |(unfold inByte;decide)
   |(simp only[*,Bool.and_self,Bool.not_false,Bool.not_true];done)
   |(simp_all [wants];done)
def cz_R134 (t:Nat→UInt8) (p:Int) (k:Nat):Cz:={
 ct:=(fun f=>match f with
 |_=>none)
 eq:=(fun t=>match t with
 |_=>none)
 raw:=[],sym:=[],nf:=[],ap:=true,off:=[],on:=[],lp:=fun r=>match r with|9=>some (fun _ K=>K (.exit 2) (I134i t p k 64))|_=>none,un:=0}
set_option maxRecDepth 100000 in
theorem R134 (t:Nat→UInt8) (p:Int) (k:Nat)  (K:Exit→St→Prop) (h:HB (decide ((Nat.cast k:Int)<4)) ((LoopOK Tryz.prog ((getLoop 9 (Tryz.f134.body.getD .skip)).getD .skip) (St.mk [(8,iv IntKind.i64 0),(20,bv (decide ((Nat.cast k:Int)<4))),(19,iv IntKind.i64 (Nat.cast k:Int)),(7,iv IntKind.i64 (Nat.cast k:Int)),(6,SV.c (Cp.l (Leaf.o 3 (64*k)))),(5,SV.c (Cp.l (Leaf.p 2 0))),(1,iv IntKind.i64 p),(4,SV.c (Cp.l (Leaf.p 1 0)))] [(0,some (Blk.mk (tl t) (BT.t 38))),(1,some (Blk.mk [Leaf.v (Value.string (ByteArray.mk #[])),li 0] (BT.t 177))),(2,some (Blk.mk (tl (plnF t)) (BT.t 211))),(3,some (Blk.mk (tb (resR p t) (64*k)) (BT.r 5 1 3)))] 4 45 [3,2,1,0] 0) fun K=>K (Exit.exit 2) (I134i t p k 64))∧IntKind.i64.wrap ((Nat.cast k:Int)+1)=(Nat.cast k:Int)+1∧RoundTo Tryz.prog ((getLoop 6 (Tryz.f134.body.getD Code.skip)).getD Code.skip) 4 (wkK 4 K) (St.mk [(7,iv IntKind.i64 ((Nat.cast k:Int)+1)),(22,iv IntKind.i64 ((Nat.cast k:Int)+1)),(21,iv IntKind.i64 (Nat.cast k:Int)),(8,iv IntKind.i64 (Nat.cast 64:Int)),(7,iv IntKind.i64 (Nat.cast k:Int)),(6,SV.c (Cp.l (Leaf.o 3 (64*k+64)))),(5,SV.c (Cp.l (Leaf.p 2 0))),(1,iv IntKind.i64 p),(4,SV.c (Cp.l (Leaf.p 1 0)))] [(0,some (Blk.mk (tl t) (BT.t 38))),(1,some (Blk.mk [Leaf.v (Value.string (ByteArray.mk #[])),li 0] (BT.t 177))),(2,some (Blk.mk (tl (plnF t)) (BT.t 211))),(3,some (Blk.mk (tb (resR p t) (64*k+64)) (BT.r 5 1 3)))] 4 45 [3,2,1,0] 0)) (wkK 4 K (Exit.exit 0) (St.mk [(20,bv (decide ((Nat.cast k:Int)<4))),(19,iv IntKind.i64 (Nat.cast k:Int)),(7,iv IntKind.i64 (Nat.cast k:Int)),(6,SV.c (Cp.l (Leaf.o 3 (64*k)))),(5,SV.c (Cp.l (Leaf.p 2 0))),(1,iv IntKind.i64 p),(4,SV.c (Cp.l (Leaf.p 1 0)))] [(0,some (Blk.mk (tl t) (BT.t 38))),(1,some (Blk.mk [Leaf.v (Value.string (ByteArray.mk #[])),li 0] (BT.t 177))),(2,some (Blk.mk (tl (plnF t)) (BT.t 211))),(3,some (Blk.mk (tb (resR p t) (64*k)) (BT.r 5 1 3)))] 4 45 [3,2,1,0] 0))):WPL Tryz.prog ((getLoop 6 (Tryz.f134.body.getD .skip)).getD .skip) (I134 t p k) (wkK 4 K):=
 wp_round (cx:=cz_R134 t p k) rfl (of_eq (by kernel_rfl) h)
set_option maxRecDepth 100000 in
set_option maxHeartbeats 4000000 in
theorem L134 (t:Nat→UInt8) (p:Int) (h0:0≤p) (hp:p<6):∀(m k:Nat),4-k=m→k≤4→∀(K:Exit→St→Prop),K (.exit 0) (I134 t p 4)→WPL Tryz.prog ((getLoop 6 (Tryz.f134.body.getD .skip)).getD .skip) (I134 t p k) (wkK 4 K)
 |0,k,hm,hk,K,hK=>by
  have e:k=4:=by omega
  subst e
  refine R134 t p _ K (HB.mk (fun hne=>absurd (of_decide_eq_true hne) (by omega)) (fun he=>?_))
  exact wkK.to (I134 t p _) (Nat.le_refl _) (by kernel_rfl) (wkE_cons (LeN.sl (by kernel_rfl) rfl) (wkE_cons (LeN.sl (by kernel_rfl) rfl) (wkE_cons (LeN.sl (by kernel_rfl) rfl) (wkE_cons (LeN.sl (by kernel_rfl) rfl) (wkE_cons (LeN.sl (by kernel_rfl) rfl) trivial))))) (wkH_cons (BkN.plain (cs:=tl t) (b:=.t 38) (by kernel_rfl) (rfl) (plain_tl t) (by kernel_rfl)) (wkH_cons (BkN.blk (k:=⟨[.v (.string ⟨#[]⟩),.v (.int .i64 0)],.t 177⟩) (by kernel_rfl) (rfl) (by kernel_rfl)) (wkH_cons (BkN.plain (cs:=tl (plnF t)) (b:=.t 211) (by kernel_rfl) (rfl) (plain_tl _) (by kernel_rfl)) (wkH_cons (BkN.plain (cs:=tb (resR p t) (64*4)) (b:=.r 5 1 3) (by kernel_rfl) (rfl) (tb_plain _ _) (by kernel_rfl)) trivial)))) hK
 |m+1,k,hm,hk,K,hK=>by
  refine R134 t p k K (HB.mk (fun hne=>?_) (fun he=>absurd (show ((k:Nat):Int)<(4:Nat) by omega) (of_decide_eq_false he)))
  have hlt:k<4:=by omega
  repeat' (first|exact trivial|with_reducible apply And.intro|(with_reducible apply HB.mk)|with_reducible intro _)
  all_goals first
   |(with_reducible assumption)
   |(with_reducible exact Le.refl _)
   |(with_reducible rfl)
   |(exact LoopOK.mk (I134i t p k 0) rfl (by kernel_rfl) (wkE_cons (LeN.sl (by kernel_rfl) rfl) (wkE_cons (LeN.sl (by kernel_rfl) rfl) (wkE_cons (LeN.sl (by kernel_rfl) rfl) (wkE_cons (LeN.sl (by kernel_rfl) rfl) (wkE_cons (LeN.sl (by kernel_rfl) rfl) (wkE_cons (LeN.sl (by kernel_rfl) rfl) trivial)))))) (wkH_cons (BkN.plain (cs:=tl t) (b:=.t 38) (by kernel_rfl) (rfl) (plain_tl t) (by kernel_rfl)) (wkH_cons (BkN.blk (k:=⟨[.v (.string ⟨#[]⟩),.v (.int .i64 0)],.t 177⟩) (by kernel_rfl) (rfl) (by kernel_rfl)) (wkH_cons (BkN.plain (cs:=tl (plnF t)) (b:=.t 211) (by kernel_rfl) (rfl) (plain_tl _) (by kernel_rfl)) (wkH_cons (BkN.plain (cs:=tb (resR p t) (64*k+0)) (b:=.r 5 1 3) (by kernel_rfl) (rfl) (tb_plain _ _) (by kernel_rfl)) trivial)))) (fun K hT=>L134i t p k h0 hp hlt _ 0 rfl (by decide) K hT))
   |(omega)
   |((with_reducible refine RoundTo.toN 4 (I134 t p (k+1)) ?_ ?_ ?_ ?_ ?_);exact Nat.le_refl _;kernel_rfl;exact (wkE_cons (LeN.sl (by kernel_rfl) rfl) (wkE_cons (LeN.sl_o (m:=64*k+64) (by kernel_rfl) rfl (by omega)) (wkE_cons (LeN.sl (by kernel_rfl) rfl) (wkE_cons (LeN.sl (by kernel_rfl) rfl) (wkE_cons (LeN.sl (by kernel_rfl) rfl) trivial)))));exact (wkH_cons (BkN.plain (cs:=tl t) (b:=.t 38) (by kernel_rfl) (rfl) (plain_tl t) (by kernel_rfl)) (wkH_cons (BkN.blk (k:=⟨[.v (.string ⟨#[]⟩),.v (.int .i64 0)],.t 177⟩) (by kernel_rfl) (rfl) (by kernel_rfl)) (wkH_cons (BkN.plain (cs:=tl (plnF t)) (b:=.t 211) (by kernel_rfl) (rfl) (plain_tl _) (by kernel_rfl)) (wkH_cons (BkN.plain (cs:=tb (resR p t) (64*k+64)) (b:=.r 5 1 3) (by kernel_rfl) (by rw[show 64*k+64=64*(k+1) by omega]) (tb_plain _ _) (by kernel_rfl)) trivial))));exact (L134 t p h0 hp m (k+1) (by omega) (by omega) K hK))
   |(exact okw _ (by omega) (by omega))
   |(exact Le.of rfl)
   |(exact BkR.of rfl)
   |(unfold SlOK;omega)
   |(unfold SlOK;decide)
   |(unfold inByte;decide)
   |(simp only[*,Bool.and_self,Bool.not_false,Bool.not_true];done)
   |(simp_all [wants];done)
def fwR (k:Int) (t:Nat→UInt8):ByteArray:=Prd.fw k.toNat t
theorem enters134:Enters Tryz.prog 134:=fun args w=>by go_simp
def cz_C134 (t:Nat→UInt8) (p:Int):Cz:={
 ct:=(fun f=>match f with
 |166=>some fun _ _S ar=>match ar with | [.c (.agg _)]=>some {v:=.c (.agg (tl (plnF t))),rd:=[],wr:=[],nw:=0}|_=>none
 |_=>none)
 eq:=(fun t=>match t with
 |_=>none)
 raw:=[],sym:=[43],nf:=[(14,bv false),(16,.c (.agg (tl t))),(43,.c (.l (.v (.string (fwR p t)))))],ap:=true,off:=[],on:=[],lp:=fun r=>match r with|6=>some (fun _ K=>K (.exit 0) (I134 t p 4))|_=>none,un:=0,wh:=[38,211,177]}
set_option maxRecDepth 100000 in
set_option maxHeartbeats 400000 in
theorem C134 (t:Nat→UInt8) (p:Int) (h0:0≤p) (hp:p<6) (n:Nat):CallOK Tryz.prog 134 [.c (.agg (tl t)),iv .i64 p] [] n (ag [.v (.string (fwR p t)),li 0]) [] 0:=by
 refine CallOK.any ?_ (by kernel_rfl) (by kernel_rfl) n
 refine call_ok (cx:=cz_C134 t p) (nm:=[]) rfl Tryz.func134 (body:=Tryz.f134.body.getD .skip) rfl enters134 (by kernel_rfl) ?_
 apply of_eq (q:=((!decide (p<0))=true→(!decide (p<0))=true∧True)∧(decide (p<0)=false→(!decide (p<0))=true)∧Le (bv (bif decide (p<0) then true else decide (p>5))) (bv false)∧Le (ag (List.take 256 (tl t))) (ag (tl t))∧CallOKd Tryz.prog 166 [] [ag (tl t)] [] 2 (ag (tl (plnF t))) [] 0∧0=0∧256=256∧(LoopOK Tryz.prog ((getLoop 6 (Tryz.f134.body.getD .skip)).getD .skip) (St.mk [(7,iv IntKind.i64 0),(6,SV.c (Cp.l (Leaf.o 3 0))),(18,SV.c (Cp.l (Leaf.o 3 0))),(5,SV.c (Cp.l (Leaf.p 2 0))),(17,ag (tl (plnF t))),(16,ag (tl t)),(14,bv false),(13,SV.g (!decide (p<0)) (Cp.l (lb (decide (p>5))))),(12,SV.g (!decide (p<0)) (Cp.l (li p))),(11,bv (decide (p<0))),(10,bv (decide (p<0))),(9,iv IntKind.i64 p),(4,SV.c (Cp.l (Leaf.p 1 0))),(2,SV.c (Cp.l (Leaf.p 0 0))),(0,ag (tl t)),(1,iv IntKind.i64 p)] [(3,some (Blk.mk [] (BT.r 5 1 3))),(2,some (Blk.mk (tl (plnF t)) (BT.t 211))),(2,some (Blk.mk zT256 (BT.t 211))),(1,some (Blk.mk [Leaf.v (Value.string (ByteArray.mk #[])),li 0] (BT.t 177))),(0,some (Blk.mk (tl t) (BT.t 38)))] 4 45 [3,2,2,1,0] 0) fun K=>K (Exit.exit 0) (I134 t p 4))∧256=256∧AllB (tb (resR p t) (64*4))∧Le (SV.c (Cp.l (Leaf.v (Value.string (strL (tb (resR p t) (64*4))))))) (SV.c (Cp.l (Leaf.v (Value.string (fwR p t)))))∧0=0∧2=2∧Le (ag [Leaf.v (Value.string (fwR p t)),li 0]) (ag [Leaf.v (Value.string (fwR p t)),li 0])∧True) (by kernel_rfl)
 repeat' (first|exact trivial|with_reducible apply And.intro|(with_reducible apply HB.mk)|with_reducible intro _)
 all_goals first
  |(with_reducible assumption)
  |(with_reducible exact Le.refl _)
  |(with_reducible rfl)
  |((with_reducible exact C166 _ _))
  |(exact LoopOK.mk (I134 t p 0) rfl (by kernel_rfl) (wkE_cons (LeN.sl (by kernel_rfl) rfl) (wkE_cons (LeN.sl (by kernel_rfl) rfl) (wkE_cons (LeN.sl (by kernel_rfl) rfl) (wkE_cons (LeN.sl (by kernel_rfl) rfl) (wkE_cons (LeN.sl (by kernel_rfl) rfl) trivial))))) (wkH_cons (BkN.plain (cs:=tl t) (b:=.t 38) (by kernel_rfl) (rfl) (plain_tl t) (by kernel_rfl)) (wkH_cons (BkN.blk (k:=⟨[.v (.string ⟨#[]⟩),.v (.int .i64 0)],.t 177⟩) (by kernel_rfl) (rfl) (by kernel_rfl)) (wkH_cons (BkN.plain (cs:=tl (plnF t)) (b:=.t 211) (by kernel_rfl) (rfl) (plain_tl _) (by kernel_rfl)) (wkH_cons (BkN.plain (cs:=[]) (b:=.r 5 1 3) (by kernel_rfl) (rfl) (tb_plain _ _) (by kernel_rfl)) trivial)))) (fun K hT=>L134 t p h0 hp _ 0 rfl (by first|decide|omega) K hT))
  |((rw[tl_take];exact Le.refl _))
  |(with_reducible exact Le.of (congrArg (fun l=>SV.c (.agg l)) (tl_take _)))
  |(exact tb_len _ 256)
  |(exact tb_all _ 256)
  |((refine Le.of ?_;rw[tb_str];rfl))
  |((refine Le.bool ?_;rw[decide_eq_false (by omega),decide_eq_false (by omega)];rfl))
  |(exact okw _ (by omega) (by omega))
  |(exact Le.of rfl)
  |(exact BkR.of rfl)
  |(unfold SlOK;omega)
  |(unfold SlOK;decide)
  |(unfold inByte;decide)
  |(simp only[*,Bool.and_self,Bool.not_false,Bool.not_true];done)
  |(simp_all [wants];done)
end Ab
end Go.Proofs.YtpdckpifhniioaaGreat
end
