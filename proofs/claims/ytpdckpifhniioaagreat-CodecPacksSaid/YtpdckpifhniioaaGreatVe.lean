/- Part 5 of what CodecPacks rests on. -/
import Derived.Test.YtpdckpifhniioaaGreatVd
section
set_option linter.unusedVariables false
set_option linter.unusedSimpArgs false
namespace Go.Proofs.YtpdckpifhniioaaGreat
open Go.RowKit
namespace Ab
def zT256:List Leaf:=List.replicate 256 (.v (.int .u8 0))
theorem zT256_eq:zT256=tl zT:=tl_zero
theorem okw (n:Int) (h0 : -9223372036854775808≤n) (h1:n≤9223372036854775807):IntKind.i64.wrap n=n:=by rw[IntKind.wrap_i64];omega
abbrev bl (b:UInt8):Lit:=.int .u8 (b.toNat:Nat)
abbrev bv8 (b:UInt8):Value:=.int .u8 (b.toNat:Nat)
theorem wf8 (b:UInt8):(bl b).wf=true:=by
 have:=b.toNat_lt
 simp[Lit.wf,IntKind.min,IntKind.max,IntKind.bits,IntKind.signed]
 try omega
theorem lits5 (D:Nat) (b:UInt8):Tryz.prog.keyLits (D+1) 5 [bv8 b]=some [bl b]:=by
 unfold Program.keyLits
 simp only[Tryz.underlying5]
 simp[wf8 b]
theorem cells5:Tryz.prog.cellsOf 5=1:=by kernel_rfl
theorem cells36:Tryz.prog.cellsOf 36=4:=by kernel_rfl
theorem cells38:Tryz.prog.cellsOf 38=256:=by kernel_rfl
theorem lits36 (D:Nat) (a b c e:UInt8):Tryz.prog.keyLits (D+2) 36 [bv8 a,bv8 b,bv8 c,bv8 e]=some [bl a,bl b,bl c,bl e]:=by
 unfold Program.keyLits
 simp only[Tryz.underlying36,cells36,cells5]
 simp[cells5,lits5]
theorem eq36 (a b c e a' b' c' e':UInt8):EqOK Tryz.prog 36 [ub a,ub b,ub c,ub e] [ub a',ub b',ub c',ub e'] (decide (a=a'∧b=b'∧c=c'∧e=e')):=by
 refine eq_key (t:=36) (m:=4) (D:=2) (D':=2) (by kernel_rfl) (by decide) (by kernel_rfl) (xs:=[bv8 a,bv8 b,bv8 c,bv8 e]) (ys:=[bv8 a',bv8 b',bv8 c',bv8 e']) (by simp[leafy,Value.oneCell']) (by simp[leafy,Value.oneCell']) (by simp[Value.formed,Tryz.underlying36,cells36]) (by simp[Value.formed,Tryz.underlying36,cells36]) (lits36 0 _ _ _ _) (lits36 0 _ _ _ _) _ ?_
 have h:∀x y:UInt8,bl x=bl y↔x=y:=by
  intro x y
  constructor
  ·intro k;injection k with _ k;exact UInt8.toNat_inj.1 (by omega)
  ·intro k;rw[k]
 simp only[decide_eq_true_eq,List.cons.injEq,h,and_true]
def tv (t:Nat→UInt8):List Value:=(List.range 256).map fun i=>bv8 (t i)
theorem tv_tl (t:Nat→UInt8):(tv t).map .v=tl t:=by simp[tv,tl]
theorem tv_len (t:Nat→UInt8):(tv t).length=256:=by simp[tv]
theorem tv_pix (t:Nat→UInt8) {k:Nat} (h:k<64):((tv t).drop (k*4)).take 4=[bv8 (t (4*k)),bv8 (t (4*k+1)),bv8 (t (4*k+2)),bv8 (t (4*k+3))]:=by
 have:=tl_pix t h
 rw[←tv_tl,←List.map_drop,←List.map_take] at this
 have hi:∀(l m:List Value),l.map Leaf.v=m.map Leaf.v→l=m:=by
  intro l m e
  exact (List.map_inj_right (fun x y e=>by injection e)).1 e
 exact hi _ _ this
theorem lits38 (t:Nat→UInt8):Tryz.prog.keyLits 3 38 (tv t)=some ((List.range 64).map fun k=>[bl (t (4*k)),bl (t (4*k+1)),bl (t (4*k+2)),bl (t (4*k+3))]).flatten:=by
 unfold Program.keyLits
 simp only[Tryz.underlying38,cells38,cells36,tv_len,if_true]
 have:(List.range 64).mapM (fun i=>Tryz.prog.keyLits 2 36 (((tv t).drop (i*4)).take 4))=some ((List.range 64).map fun k=>[bl (t (4*k)),bl (t (4*k+1)),bl (t (4*k+2)),bl (t (4*k+3))]):=by
  have key:∀l:List Nat,(∀k∈l,k<64)→l.mapM (fun i=>Tryz.prog.keyLits 2 36 (((tv t).drop (i*4)).take 4))=some (l.map fun k=>[bl (t (4*k)),bl (t (4*k+1)),bl (t (4*k+2)),bl (t (4*k+3))]):=by
   intro l hl
   induction l with
   |nil=>rfl
   |cons k l ih=>
    rw[List.mapM_cons,tv_pix t (hl k (by simp)),lits36 0,ih (fun j hj=>hl j (by simp[hj]))]
    rfl
  exact key _ (fun k hk=>by simpa using hk)
 rw[this]
 rfl
def sameT (t u:Nat→UInt8):Bool:=(List.range 256).all fun i=>decide (t i=u i)
theorem sameT_iff (t u:Nat→UInt8):sameT t u=true↔∀i,i<256→t i=u i:=by
 unfold sameT;simp[List.all_eq_true]
theorem flat_inj {t u:Nat→UInt8}:∀l:List Nat,((l.map fun k=>[bl (t (4*k)),bl (t (4*k+1)),bl (t (4*k+2)),bl (t (4*k+3))]).flatten=(l.map fun k=>[bl (u (4*k)),bl (u (4*k+1)),bl (u (4*k+2)),bl (u (4*k+3))]).flatten↔∀k∈l,t (4*k)=u (4*k)∧t (4*k+1)=u (4*k+1)∧t (4*k+2)=u (4*k+2)∧t (4*k+3)=u (4*k+3))
 |[]=>by simp
 |k::l=>by
  have h:∀x y:UInt8,bl x=bl y↔x=y:=by
   intro x y
   constructor
   ·intro k;injection k with _ k;exact UInt8.toNat_inj.1 (by omega)
   ·intro k;rw[k]
  simp only[List.map_cons,List.flatten_cons,List.cons_append,List.nil_append,List.cons.injEq,h,flat_inj l,List.forall_mem_cons]
  constructor
  ·rintro ⟨a,b,c,d,e⟩;exact ⟨⟨a,b,c,d⟩,e⟩
  ·rintro ⟨⟨a,b,c,d⟩,e⟩;exact ⟨a,b,c,d,e⟩
theorem eq38 (t u:Nat→UInt8):EqOK Tryz.prog 38 (tl t) (tl u) (sameT t u):=by
 rw[←tv_tl,←tv_tl]
 have lf:∀v:Nat→UInt8,∀y∈tv v,leafy y=true:=by
  intro v y hy
  simp only[tv,List.mem_map] at hy
  obtain ⟨i,_,rfl⟩:=hy
  rfl
 refine eq_key (t:=38) (m:=5) (D:=3) (D':=3) (by kernel_rfl) (by decide) (by kernel_rfl) (lf t) (lf u) (by simp[Value.formed,Tryz.underlying38,cells38,tv_len]) (by simp[Value.formed,Tryz.underlying38,cells38,tv_len]) (lits38 t) (lits38 u) _ ?_
 rw[flat_inj,sameT_iff]
 constructor
 ·intro h k hk
  have hk:k<64:=by simpa using hk
  exact ⟨h _ (by omega),h _ (by omega),h _ (by omega),h _ (by omega)⟩
 ·intro h i hi
  obtain ⟨a,b,c,d⟩:=h (i / 4) (by simp;omega)
  have:i=4*(i / 4)+i % 4:=by omega
  have h4:i % 4<4:=by omega
  generalize i / 4=q at *
  match hm:i % 4,h4 with
  |0,_=>rw[this,hm];exact a
  |1,_=>rw[this,hm];exact b
  |2,_=>rw[this,hm];exact c
  |3,_=>rw[this,hm];exact d
end Ab
end Go.Proofs.YtpdckpifhniioaaGreat
end
