/- Part 10 of what CodecLocal rests on. -/
import Derived.Lib.Builder
import Derived.Lib.UnsafeStr
import Derived.Laws.Externs
import Derived.Deep.DeepCutAuto
import Derived.Test.YtpdckpifhniioaaGreatProg
import Derived.WalkKit
import Derived.WalkLawsBesides
import Derived.WalkSpells
import Derived.Lib.Hide
import Derived.Laws.IdiomStrings
import Derived.BigQuiet
import Derived.Deep.Light
import Derived.Deep.QuietTactic
import Derived.Deep.OwnRows
import Derived.Deep.MidRow
import Derived.Deep.WholeRow
import Derived.Deep.RegionHeld3
import Derived.Deep.DrawnRows
import Derived.Test.YtpdckpifhniioaaGreatPa
import Derived.Test.YtpdckpifhniioaaGreatPi
section
set_option linter.unusedVariables false
set_option linter.unusedSimpArgs false
namespace Go.Proofs.YtpdckpifhniioaaGreat.Cod
open Go.RowKit
open Go.Proofs.YtpdckpifhniioaaGreat
section
theorem sizeBld:(Tryz.prog.info? 101).map (·.size)=some 2:=by kernel_rfl
theorem liesBld:liesAt Tryz.prog Tryz.prog.depth 101 (2 / Tryz.prog.cellsOf 101) 0 101 1=true:=by kernel_rfl
set_option maxRecDepth 100000 in
set_option maxHeartbeats 1000000 in
theorem ck_used (b:Nat) (v:Value) (w:World) (h:w.heap[b]? = some (.cells #[.pointer (some ⟨b,0,none⟩),v] 101 (0,0))) :
  Calls Tryz.prog 110 #[.pointer (some ⟨b,0,none⟩)] w fun e w'=>e=.returned (.tuple #[])∧w'=w:=by
 obtain ⟨j,hj,_⟩:=Option.map_eq_some_iff.1 sizeBld
 have h0:w.cell? ⟨b,0,none⟩=some (.pointer (some ⟨b,0,none⟩)):=by rw[Lib.cell_of_heap h];rfl
 go_enter Tryz.func110,Tryz.ntmps110
 go_wp2
 rw[Lib.run_neq_ptr_same w _ Tryz.underlying99 hj]
 go_wp2
 refine bodyPost_end (results_none rfl _ _ _) rfl ⟨rfl,rfl⟩
set_option maxRecDepth 100000 in
set_option maxHeartbeats 1000000 in
theorem ck_fresh (b:Nat) (v:Value) (w:World) (h:w.heap[b]? = some (.cells #[.pointer none,v] 101 (0,0))) :
  Calls Tryz.prog 110 #[.pointer (some ⟨b,0,none⟩)] w fun e w'=>e=.returned (.tuple #[])∧w'=w.setCell ⟨b,0,none⟩ (.pointer (some ⟨b,0,none⟩)):=by
 obtain ⟨j,hj,hjs⟩:=Option.map_eq_some_iff.1 sizeBld
 have h0:w.cell? ⟨b,0,none⟩=some (.pointer none):=by rw[Lib.cell_of_heap h];rfl
 have hfz:w.frozen? ⟨b,0,none⟩=false:=Lib.frozen_of_heap h 0
 have hsh:w.shape? b=some (101,2):=by simp[World.shape?,h]
 clear h
 go_enter Tryz.func110,Tryz.ntmps110
 go_wp2
 rw[Lib.run_to_unsafe w ⟨b,0,none⟩ Tryz.underlying99 Tryz.underlying185 hj (by rw[hjs];decide) hsh (Nat.zero_lt_succ 1)]
 simp only[Result.andThen]
 rw[Oper.upon_value]
 go_wp2
 rw[run_callFunc_extern Tryz.func145 (by kernel_rfl) (by kernel_rfl) (by kernel_rfl) (e:=Extern.AbiNoEscape.same) (by kernel_rfl)]
 rw[Lib.run_noEscape]
 simp only[Result.andThen]
 rw[Oper.upon_value]
 go_wp2
 rw[Lib.run_from_unsafe w ⟨b,0,none⟩ Tryz.underlying185 Tryz.underlying99 hj hsh liesBld]
 simp only[Result.andThen]
 rw[Oper.upon_value]
 go_wp2
 refine bodyPost_end (results_none rfl _ _ _) rfl ⟨rfl,rfl⟩
structure HB (b:Nat) (l:List UInt8) (w:World):Prop where
 ex:∃p v,w.heap[b]? = some (.cells #[p,v] 101 (0,0))∧(p=.pointer none∨p=.pointer (some ⟨b,0,none⟩))∧w.ownsRow (b+1) 5 1 v l.length (bvals l)∧(l=[]→v=.slice none 0 0)
set_option maxRecDepth 100000 in
set_option maxHeartbeats 1000000 in
theorem wbyte (b:Nat) (l:List UInt8) (c:UInt8) (w:World) (h:HB b l w) (hl:l.length≤100000000) :
  Calls Tryz.prog 197 #[.pointer (some ⟨b,0,none⟩),.int .u8 (c.toNat:Int)] w fun e w'=>e=.returned .nilIface∧HB b (l++[c]) w'∧Below b w w':=by
 obtain ⟨p,v,h1,h2,h3,h4⟩:=h.ex
 have hlt:b<w.heap.size:=(Array.getElem?_eq_some_iff.1 h1).1
 have hck:Calls Tryz.prog 110 #[.pointer (some ⟨b,0,none⟩)] w fun e w'=>e=.returned (.tuple #[])∧w'.heap[b]? = some (.cells #[.pointer (some ⟨b,0,none⟩),v] 101 (0,0))∧w'.ownsRow (b+1) 5 1 v l.length (bvals l)∧Below b w w'∧b<w'.heap.size:=by
  rcases h2 with rfl|rfl
  ·refine (ck_fresh b v w h1).mono ?_
   rintro e w' ⟨rfl,rfl⟩
   refine ⟨rfl,?_,?_,(Below.refl b w).setCell (p:=⟨b,0,none⟩) (Nat.le_refl _) _,by simpa [World.setCell] using hlt⟩
   ·simp[World.setCell,Array.getElem?_modify,h1]
   ·refine h3.kept (row:=some b) ⟨rfl,rfl,rfl,by simp[World.setCell],fun k _ hk=>Below.heap_setCell _ _ _ _ (fun e=>hk (by simp[e]))⟩ (Or.inr ?_)
    exact (row_ne h3 h1 (by decide)).symm
  ·refine (ck_used b v w h1).mono ?_
   rintro e w' ⟨rfl,rfl⟩
   exact ⟨rfl,h1,h3,Below.refl b _,hlt⟩
 have HC:=Lib.hid hck
 clear hck h1 h2 h3 h4 h
 go_enter Tryz.func197,Tryz.ntmps197
 go_wp2_with fail
 refine HC.out.mono ?_
 rintro e W ⟨rfl,h1,h2,h3,h4⟩
 clear HC
 have c1:W.cell? ⟨b,1,none⟩=some v:=by rw[Lib.cell_of_heap h1];rfl
 replace h1:=Lib.hid h1
 replace h3:=Lib.hid h3
 go_wp2_with (at_builtin;refine wp_push _ rfl _ _ 57 5 rfl Tryz.underlying57 (.int .u8 0) 1 infoU8 rfl (b+1) _ _ _ rfl h2 _ _ rfl rfl (by omega) (by omega) (by omega) ?_)
 intro v' W2 hown hnil hbl hsz
 have h12:W2.heap[b]? = some (.cells #[.pointer (some ⟨b,0,none⟩),v] 101 (0,0)):=by rw[hbl.block b (by omega)];exact h1.out
 have d1:W2.cell? ⟨b,1,none⟩=some v:=by rw[Lib.cell_of_heap h12];rfl
 have f1:W2.frozen? ⟨b,1,none⟩=false:=Lib.frozen_of_heap h12 1
 obtain ⟨so,sc,hv⟩:=own_mem hown
 subst hv
 have HB2:Hid (HB b (l++[c]) (W2.setCell ⟨b,1,none⟩ (.slice so (l.length+1) sc))):=by
  refine Lib.hid ⟨_,.slice so (l.length+1) sc,?_,.inr rfl,?_,fun e=>by simp at e⟩
  ·simp[World.setCell,Array.getElem?_modify,h12]
  ·rw[bvals_append,List.length_append]
   refine hown.kept (row:=some b) ⟨rfl,rfl,rfl,by simp[World.setCell],fun k _ hk=>Below.heap_setCell _ _ _ _ (fun e=>hk (by simp[e]))⟩ (Or.inr ?_)
   exact (row_ne hown h12 (by decide)).symm
 have HW:Hid (Below b w (W2.setCell ⟨b,1,none⟩ (.slice so (l.length+1) sc))):=by
  refine Lib.hid ((h3.out.trans ?_).setCell (p:=⟨b,1,none⟩) (Nat.le_refl _) _)
  exact ⟨hbl.os,hbl.tape,hbl.output,hbl.size,fun k hk=>hbl.block k (by omega)⟩
 clear hown h12 hbl h1 h3
 go_wp2
 go_ret
 exact ⟨rfl,HB2.out,HW.out⟩
structure HF (b:Nat) (l:List UInt8) (w:World):Prop where
 ex:∃p v,w.heap[b]? = some (.cells #[p,v] 101 (0,0))∧((l=[]∧v=.slice none 0 0)∨(l≠[]∧∃g cap cur fr,v=.slice (some ⟨g,0,none⟩) l.length cap∧b+1≤g∧w.heap[g]? = some (.cells cur 5 fr)∧l.length≤cap∧cap≤maxLen∧cur.size=cap∧cur.toList.take l.length=bvals l))
theorem HF.grow {b l w w'} (h:HF b l w) (k:Grow w w'):HF b l w':=by
 obtain ⟨p,v,h1,h2⟩:=h.ex
 refine ⟨p,v,k.block h1,h2.imp id ?_⟩
 rintro ⟨h0,g,cap,cur,fr,r1,r2,r3,r4⟩
 exact ⟨h0,g,cap,cur,fr,r1,r2,k.block r3,r4⟩
theorem HB.hf {b l w} (h:HB b l w):HF b l w:=by
 obtain ⟨p,v,h1,h2,h3,h4⟩:=h.ex
 refine ⟨p,v,h1,?_⟩
 by_cases h0:l=[]
 ·exact .inl ⟨h0,h4 h0⟩
 ·refine .inr ⟨h0,?_⟩
  rcases h3.2 with ⟨_,hz⟩|⟨g,cap,cur,r1,r2,r3,r4,r5,r6,r7⟩
  ·exact absurd (List.length_eq_zero_iff.1 hz) h0
  ·exact ⟨g,cap,cur,(0,0),r1,r2,r3,r4,r5,by omega,by simpa using r7⟩
theorem cellsU8:Tryz.prog.cellsOf 5=1:=by kernel_rfl
theorem freeze_keeps {w:World} {g n:Nat} {cur:Array Value} {t fr} (hg:w.heap[g]? = some (.cells cur t fr)):∃fr',(w.freeze ⟨g,0,none⟩ n).heap[g]? = some (.cells cur t fr'):=by
 unfold World.freeze
 split
 ·exact ⟨fr,hg⟩
 ·simp only[Array.getElem?_modify]
  simp[hg]
theorem freeze_other {w:World} {g n k:Nat} (h:k≠g):(w.freeze ⟨g,0,none⟩ n).heap[k]? = w.heap[k]?:=by
 unfold World.freeze
 split
 ·rfl
 ·simp only[Array.getElem?_modify]
  simp[Ne.symm h]
set_option maxRecDepth 100000 in
set_option maxHeartbeats 1000000 in
theorem bstring (b:Nat) (l:List UInt8) (w:World) (h:HF b l w) :
  Calls Tryz.prog 54 #[.pointer (some ⟨b,0,none⟩)] w fun e w'=>e=.returned (.string ⟨l.toArray⟩)∧HF b l w'∧Below (b+1) w w':=by
 obtain ⟨p,v,h1,h2|⟨h0,g,cap,cur,fr,rfl,r2,r3,r4,r5,r6,r7⟩⟩:=h.ex
 ·obtain ⟨rfl,rfl⟩:=h2
  have hf:HF b [] w.drew:=⟨h.ex⟩
  have c1:w.drew.cell? ⟨b,1,none⟩=some (.slice none 0 0):=by
   have:w.drew.heap[b]? = some (.cells #[p,.slice none 0 0] 101 (0,0)):=h1
   rw[Lib.cell_of_heap this];rfl
  have hSD:(Builtin.unsafeSliceData_ #[57] 171 #[.slice none 0 0]).run Tryz.prog w.drew=.ok (.pointer none) w.drew:=rfl
  have hUS:(Builtin.unsafeString_ #[171,3] 9 #[.pointer none,.int .i64 0]).run Tryz.prog w.drew=.ok (.string .empty) w.drew:=Lib.run_unsafeString_none _ _ _ _ _
  clear h h1
  go_enter Tryz.func54,Tryz.ntmps54
  go_wp2
  go_region
  all_goals (go_wp2;go_ret;exact ⟨rfl,hf,Below.drew (Below.refl _ w)⟩)
 ·have hl:0<l.length:=by cases l with|nil=>exact absurd rfl h0|cons=>simp
  have c1:w.drew.cell? ⟨b,1,none⟩=some (.slice (some ⟨g,0,none⟩) l.length cap):=by
   have:w.drew.heap[b]? = some (.cells #[p,.slice (some ⟨g,0,none⟩) l.length cap] 101 (0,0)):=h1
   rw[Lib.cell_of_heap this];rfl
  have hSD:(Builtin.unsafeSliceData_ #[57] 171 #[.slice (some ⟨g,0,none⟩) l.length cap]).run Tryz.prog w.drew=.ok (.pointer (some ⟨g,0,none⟩)) w.drew:=
   Lib.run_unsafeSliceData_row _ _ _ _ _ _ (by omega)
  have hUS:(Builtin.unsafeString_ #[171,3] 9 #[.pointer (some ⟨g,0,none⟩),.int .i64 l.length]).run Tryz.prog w.drew=.ok (.string ⟨l.toArray⟩) (w.drew.freeze ⟨g,0,none⟩ l.length):=by
   refine Lib.run_unsafeString_row w.drew 171 3 9 5 Tryz.underlying171 cellsU8 g cur.size (by have hg':w.drew.heap[g]? = some (.cells cur 5 fr):=r3;simp[World.shape?,hg']) l h0 (by omega) (by unfold maxLen at r5;omega) ?_
   intro j x hx
   have hj:j<l.length:=(List.getElem?_eq_some_iff.1 hx).1
   have hg':w.drew.heap[g]? = some (.cells cur 5 fr):=r3
   have e:(⟨g,0,none⟩:Addr).add j=⟨g,j,none⟩:=by unfold Addr.add;split<;>simp_all
   rw[e,Lib.cell_of_heap hg']
   have h3:(cur.toList.take l.length)[j]? = some (.int .u8 x.toNat):=by rw[r7];simp[bvals,hx]
   rw[List.getElem?_take,if_pos hj,Array.getElem?_toList] at h3
   exact h3
  have hf:HF b l (w.drew.freeze ⟨g,0,none⟩ l.length):=by
   obtain ⟨fr',h5⟩:=freeze_keeps (w:=w.drew) (n:=l.length) r3
   refine ⟨p,_,?_,.inr ⟨h0,g,cap,cur,fr',rfl,r2,h5,r4,r5,r6,r7⟩⟩
   rw[freeze_other (by omega)];exact h1
  clear h h1 r3 r4 r5 r6 r7
  go_enter Tryz.func54,Tryz.ntmps54
  go_wp2
  go_region
  all_goals (go_wp2;go_ret;exact ⟨rfl,hf,Lib.below_freeze (Below.drew (Below.refl _ w)) (p:=⟨g,0,none⟩) r2 _⟩)
end
section
structure DI (g rb bb:Nat) (f:ByteArray) (a:Nat) (m:Nat) (s:M.St) (w1 w:World):Prop where
 rs:RS g f m s w
 hrb:w.heap[rb]? = some (.cells #[.pointer (some ⟨g,0,none⟩)] 246 (0,0))
 hbb:w.heap[bb]? = some (.cells #[.int .u8 (a:Int)] 5 (0,0))
 chg:Chg g none w1 w
 lt:w1.heap.size≤bb
set_option maxRecDepth 100000 in
set_option maxHeartbeats 1000000 in
theorem cb32 {g rb bb:Nat} {f:ByteArray} {c m:Nat} {s:M.St} {w1:World} (w:World) (k:Nat) (hk:k<8) (h1:2 ^ k≤c) (h2:c<2 ^ (k+1)) (h:DI g rb bb f (M.acc c k) m s w1 w) (hm:m≤90000000) (hf:f.size≤1000000000000000) :
  Calls Tryz.prog 195 #[.int .i64 (7-(k:Int)),.int .i64 (c:Int),.pointer (some ⟨rb,0,none⟩),.pointer (some ⟨bb,0,none⟩)] w fun e w'=>
   e=.returned (.int .i64 (M.rb s c (M.val f.data.toList m)))∧DI g rb bb f (M.acc (2*c+(M.rb s c (M.val f.data.toList m)).toNat) (k+1)) (m+(M.outB s c (M.rb s c (M.val f.data.toList m))).length) (M.nxt s c (M.rb s c (M.val f.data.toList m))) w1 w':=by
 have hc256:c<256:=Nat.lt_of_lt_of_le h2 (show 2 ^ (k+1)≤2 ^ 8 from Nat.pow_le_pow_right (by decide) (by omega))
 have hcx:cx (c:Int)=c:=by unfold cx;omega
 have hr:=bit_rs h.rs (c:Int) hm hf
 unfold nb at hr
 rw[hcx] at hr
 have d1:w.cell? ⟨rb,0,none⟩=some (.pointer (some ⟨g,0,none⟩)):=by rw[cell_of_row w rb 0 _ _ _ h.hrb];rfl
 obtain ⟨b,hb⟩:∃b:Nat,M.rb s c (M.val f.data.toList m)=b:=by
  rcases M.rb_01 s c (M.val f.data.toList m) with e|e
  ·exact ⟨0,e⟩
  ·exact ⟨1,e⟩
 have hb1:b≤1:=by rcases M.rb_01 s c (M.val f.data.toList m) with e|e<;>omega
 rw[hb] at hr⊢
 have hbt:(b:Int).toNat=b:=rfl
 rw[hbt]
 obtain ⟨a1,a2,a3,a4⟩:=M.acc_step c k b hk h1 h2 hb1
 rw[a1]
 clear a1
 have HR:=Lib.hid hr
 have HD:=Lib.hid h
 clear hr h
 have hor:=u8_or_nat (M.acc c k) (b*2 ^ (7-k)) a3 a4
 rw[a2] at hor
 generalize M.acc c k=a at *
 go_enter Tryz.func195,Tryz.ntmps195
 go_wp2_with fail
 refine HR.out.mono ?_
 rintro e x ⟨rfl,hrs,hchg⟩
 have hne:rb≠g:=by
  obtain ⟨_,_,hx⟩:=HD.out.rs.ex
  exact blk_ne hx HD.out.hrb (by decide)
 have hne2:bb≠g:=by
  obtain ⟨_,_,hx⟩:=HD.out.rs.ex
  exact blk_ne hx HD.out.hbb (by decide)
 have x1:x.heap[rb]? = some (.cells #[.pointer (some ⟨g,0,none⟩)] 246 (0,0)):=by rw[hchg.block _ (Array.getElem?_eq_some_iff.1 HD.out.hrb).1 hne (by simp)];exact HD.out.hrb
 have x2:x.heap[bb]? = some (.cells #[.int .u8 (a:Int)] 5 (0,0)):=by rw[hchg.block _ (Array.getElem?_eq_some_iff.1 HD.out.hbb).1 hne2 (by simp)];exact HD.out.hbb
 have d2:x.cell? ⟨bb,0,none⟩=some (.int .u8 (a:Int)):=by rw[cell_of_row x bb 0 _ _ _ x2];rfl
 have f2:x.frozen? ⟨bb,0,none⟩=false:=frozen_of_row x bb 0 _ _ x2
 have HX:=Lib.hid (And.intro hrs (And.intro x1 (And.intro x2 (HD.out.chg.trans (.inl rfl) hchg))))
 have hlt:=HD.out.lt
 clear hrs x1 x2 hchg HR d1
 go_upto_region 2 with fail
 refine wp_region_lastB2 (C:=fun y=>∃n,y=x.drewN n) rfl (by kernel_rfl) (by kernel_rfl) (by kernel_rfl) (by kernel_rfl) rfl rfl ⟨1,rfl⟩ ?_
 simp only[lastOp,List.dropLast,List.cons_append,List.nil_append]
 repeat (first
  |go_big_quiet_skip
  |(go_big_quiet_want;refine q_val ?_;apply Exists.intro;refine ⟨fun x hx=>?_,?_⟩;(focus (obtain ⟨n,rfl⟩:=hx;go_simp<;>rfl));simp only[Act.put,List.setIfInBounds_toArray,List.set_cons_zero,List.set_cons_succ];go_big_quiet_on))
 refine wpQuiet_nil ?_
 rintro y ⟨n,rfl⟩
 have hw0:IntKind.u8.wrap (b:Int)=b:=by rw[IntKind.wrap_u8];omega
 have hw1:IntKind.u8.wrap ((b:Int)*2 ^ (7-k))=((b*2 ^ (7-k):Nat):Int):=by
  have e:((b:Int)*2 ^ (7-k))=((b*2 ^ (7-k):Nat):Int):=by rw[Int.natCast_mul,Int.natCast_pow];rfl
  rw[e,IntKind.wrap_u8]
  generalize b*2 ^ (7-k)=z at *
  omega
 rw[hw0,hw1,hor]
 clear hw0 hw1 hor a2 a3 a4
 generalize hz:b*2 ^ (7-k)=z at *
 replace hz:=Lib.hid hz
 replace HX:=Lib.hid (show RS g f _ _ (x.drewN n)∧(x.drewN n).heap[rb]? = some (.cells #[.pointer (some ⟨g,0,none⟩)] 246 (0,0))∧(x.drewN n).heap[bb]? = some (.cells #[.int .u8 (a:Int)] 5 (0,0))∧Chg g none w1 (x.drewN n) from
  ⟨⟨HX.out.1.ok,HX.out.1.ex⟩,HX.out.2.1,HX.out.2.2.1,⟨HX.out.2.2.2.os,HX.out.2.2.2.tape,HX.out.2.2.2.output,HX.out.2.2.2.size,HX.out.2.2.2.block⟩⟩)
 replace d2:(x.drewN n).cell? ⟨bb,0,none⟩=some (.int .u8 (a:Int)):=d2
 replace f2:(x.drewN n).frozen? ⟨bb,0,none⟩=false:=f2
 generalize x.drewN n=y at *
 obtain ⟨y1,y2,y3,y4⟩:=HX.out
 have hrb:rb≠bb:=by
  intro e
  rw[e,y3] at y2
  injection y2 with y2
  injection y2 with _ y2 _
  exact absurd y2 (by decide)
 have HF:Hid (DI g rb bb f (a+z) (m+(M.outB s c (b:Int)).length) (M.nxt s c (b:Int)) w1 (y.setCell ⟨bb,0,none⟩ (.int .u8 ((a:Int)+(z:Int))))):=by
  refine Lib.hid ⟨⟨y1.ok,?_⟩,?_,?_,⟨y4.os,y4.tape,y4.output,by simp[World.setCell];exact y4.size,fun j hj hg hr=>by rw[heap_setCell_other _ _ _ _ (by show j≠bb;omega)];exact y4.block j hj hg hr⟩,hlt⟩
  ·obtain ⟨n',e',hx⟩:=y1.ex
   exact ⟨n',e',hx.other _ _ (Ne.symm hne2)⟩
  ·rw[heap_setCell_other _ _ _ _ (by simpa using hrb)];exact y2
  ·simp[World.setCell,Array.getElem?_modify,y3]
 clear HX HD y1 y2 y3 y4
 go_wp2
 go_ret
 exact ⟨rfl,by rw[hz.out];exact HF.out⟩
end
section
theorem RS.below {g f m s w w' N} (h:RS g f m s w) (k:Below N w w') (hg:g<N):RS g f m s w':=by
 obtain ⟨n,h0,x1⟩:=h.ex
 refine ⟨h.ok,n,h0,?_⟩
 have:=k.block g hg
 unfold Blk at x1⊢;rw[this];exact x1
theorem di_cb {g rb bb:Nat} {f:ByteArray} {m:Nat} {s:M.St} {w1:World} (hs:M.Ok s) (hm:m≤80000000) (hf:f.size≤1000000000000000) :
  CbE 195 #[.pointer (some ⟨rb,0,none⟩),.pointer (some ⟨bb,0,none⟩)] (fun k=>((M.rdc f.data.toList k 1 s m).1:Int)) (fun k=>M.rb (M.rdc f.data.toList k 1 s m).2.1 (M.rdc f.data.toList k 1 s m).1 (M.val f.data.toList (M.rdc f.data.toList k 1 s m).2.2))
   (fun k w=>k≤8∧DI g rb bb f (M.acc (M.rdc f.data.toList k 1 s m).1 k) (M.rdc f.data.toList k 1 s m).2.2 (M.rdc f.data.toList k 1 s m).2.1 w1 w) where
 enters:=enters_fn Tryz.func195 (by kernel_rfl) rfl
 start:=rfl
 next:=fun k hk=>by
  rw[M.rdc_succ]
  show ((2*(M.rdc f.data.toList k 1 s m).1+(M.rb _ _ _).toNat:Nat):Int)=_
  have:=M.rb_01 (M.rdc f.data.toList k 1 s m).2.1 (M.rdc f.data.toList k 1 s m).1 (M.val f.data.toList (M.rdc f.data.toList k 1 s m).2.2)
  omega
 bit:=fun k hk=>M.rb_01 _ _ _
 call:=fun k w hk h=>by
  obtain ⟨b1,b2,b3,b4⟩:=M.rdc_bd f.data.toList s m hs k
  refine (cb32 w k hk b1 b2 h.2 (by omega) hf).mono ?_
  rintro e w' ⟨rfl,hd⟩
  refine ⟨rfl,by omega,?_⟩
  rw[M.rdc_succ]
  exact hd
def dres (f:ByteArray) (n:Nat):ByteArray×Int:=if (⟨(M.enc (M.dec f.data.toList n)).toArray⟩:ByteArray)=f then (⟨(M.dec f.data.toList n).toArray⟩,0) else (⟨#[]⟩,11)
structure DL (w0:World) (g rb ob:Nat) (f:ByteArray) (l:List UInt8) (m:Nat) (s:M.St) (w:World):Prop where
 rs:RS g f m s w
 hrb:w.heap[rb]? = some (.cells #[.pointer (some ⟨g,0,none⟩)] 246 (0,0))
 hb:HB ob l w
 below:Below w0.heap.size w0 w
 g1:w0.heap.size≤g
 g2:g<ob
 r2:rb<ob
theorem HB.lt {b l w} (h:HB b l w):b<w.heap.size:=by
 obtain ⟨p,v,h1,_⟩:=h.ex
 exact (Array.getElem?_eq_some_iff.1 h1).1
theorem HB.chg {b l w w' g} (h:HB b l w) (k:Chg g none w w') (hg:b≠g) (hr:∀c fr,w.heap[g]?≠some (.cells c 5 fr)):HB b l w':=by
 obtain ⟨p,v,h1,h2,h3,h4⟩:=h.ex
 have hl:b<w.heap.size:=(Array.getElem?_eq_some_iff.1 h1).1
 refine ⟨p,v,by rw[k.block b hl hg (by simp)];exact h1,h2,?_,h4⟩
 obtain ⟨y1,y2⟩:=h3
 refine ⟨y1,y2.imp id ?_⟩
 rintro ⟨j,cap,cur,e1,e2,e3,e4⟩
 refine ⟨j,cap,cur,e1,e2,?_,e4⟩
 rw[k.block j (Array.getElem?_eq_some_iff.1 e3).1 (fun e=>hr cur _ (e▸e3)) (by simp)];exact e3
theorem DL.di {w0 g rb ob f l m s w} (h:DL w0 g rb ob f l m s w):DI g rb w.heap.size f (M.acc 1 0) m s w (w.alloc (.cells #[.int .u8 0] 5)):=
 ⟨h.rs.grow (Grow.alloc _ _),(Grow.alloc _ _).block h.hrb,heap_alloc_new _ _,Chg.of_grow (Grow.alloc _ _),Nat.le_refl _⟩
theorem DL.dl {w0 g rb ob f l m s w bb a m' s' w'} (h:DL w0 g rb ob f l m s w) (k:DI g rb bb f a m' s' w w'):DL w0 g rb ob f l m' s' w':=by
 refine ⟨k.rs,k.hrb,?_,h.below.trans (k.chg.below h.g1 (by simp) h.below.size),h.g1,h.g2,h.r2⟩
 refine h.hb.chg k.chg (by have:=h.g2;omega) ?_
 intro c fr e
 obtain ⟨_,_,hx⟩:=h.rs.ex
 unfold Blk at hx
 rw[hx] at e
 injection e with e
 injection e with _ e _
 exact absurd e (by decide)
theorem DL.wb {w0 g rb ob f l m s w l' w'} (h:DL w0 g rb ob f l m s w) (k:HB ob l' w') (hb:Below ob w w'):DL w0 g rb ob f l' m s w':=
 ⟨h.rs.below hb h.g2,by rw[hb.block rb h.r2];exact h.hrb,k,h.below.trans (hb.mono (by have:=h.g1;have:=h.g2;omega)),h.g1,h.g2,h.r2⟩
theorem beq_bytes (a b:ByteArray):(a.toList==b.toList)=decide (a=b):=by
 by_cases h:a=b
 ·subst h;simp
 ·simp only[h,decide_false]
  have:a.toList≠b.toList:=by
   intro e
   rw[ByteArray.toList_eq,ByteArray.toList_eq] at e
   exact h (ByteArray.ext (Array.toList_inj.mp e))
  simpa using this
set_option maxRecDepth 100000 in
set_option maxHeartbeats 2000000 in
theorem decode_any (f:ByteArray) (n:Nat) (hn:n≤65536) (hf:f.size≤1000000000000000) (w:World) :
  Calls Tryz.prog 172 #[.string f,.int .i64 (n:Int)] w fun e w'=>e=.returned (.tuple #[.string (dres f n).1,.int .i64 (dres f n).2])∧Grow w w':=by
 have HN:=Lib.hid (newReader_rs f w)
 have n1:¬(n:Int)<0:=by omega
 have n2:¬(n:Int)>65536:=by omega
 go_enter Tryz.func172,Tryz.ntmps172
 go_wp2_with fail
 refine HN.out.mono ?_
 rintro e x ⟨rfl,hr,hg⟩
 have hx:=hr.lt
 replace hr:=Lib.hid hr
 replace hg:=Lib.hid hg
 clear HN
 go_upto_block 1 with fail
 obtain ⟨gr,hgr⟩:∃gr,gr=w.heap.size:=⟨_,rfl⟩
 obtain ⟨rb,hrb⟩:∃rb,rb=x.heap.size:=⟨_,rfl⟩
 have hD:Hid (DL w gr rb (rb+1) f (M.rdN f.data.toList 0 M.start 0).1 (M.rdN f.data.toList 0 M.start 0).2.2 (M.rdN f.data.toList 0 M.start 0).2.1 ((x.alloc (.cells #[.pointer (some ⟨gr,0,none⟩)] 246)).alloc (.cells #[.pointer none,.slice none 0 0] 101))):=by
  have z1:(x.alloc (.cells #[.pointer (some ⟨gr,0,none⟩)] 246)).heap[rb]? = some (.cells #[.pointer (some ⟨gr,0,none⟩)] 246 (0,0)):=by rw[hrb];exact heap_alloc_new _ _
  have z2:((x.alloc (.cells #[.pointer (some ⟨gr,0,none⟩)] 246)).alloc (.cells #[.pointer none,.slice none 0 0] 101)).heap[rb+1]? = some (.cells #[.pointer none,.slice none 0 0] 101 (0,0)):=by
   have:=heap_alloc_new (x.alloc (.cells #[.pointer (some ⟨gr,0,none⟩)] 246)) (.cells #[.pointer none,.slice none 0 0] 101)
   rw[hrb];simpa using this
  refine Lib.hid ⟨?_,(Grow.alloc _ _).block z1,⟨_,_,z2,.inl rfl,⟨rfl,.inl ⟨rfl,rfl⟩⟩,fun _=>rfl⟩,?_,by omega,by omega,by omega⟩
  ·rw[hgr];exact (hr.out.grow (Grow.alloc _ _)).grow (Grow.alloc _ _)
  ·refine hg.out.trans (Below.mono (show Below x.heap.size _ _ from ?_) (by omega))
   exact (Grow.alloc x _).trans (Below.mono (Grow.alloc _ _) (by simp))
 rw[←hrb,←hgr]
 replace hgr:=Lib.hid hgr
 replace hrb:=Lib.hid hrb
 generalize hW:(x.alloc (.cells #[.pointer (some ⟨gr,0,none⟩)] 246)).alloc (.cells #[.pointer none,.slice none 0 0] 101)=W at hD⊢
 clear hr hg hx hW
 go_loopg [18] n (fun k s18 wr=>∃i,i+k=n∧s18=.int .i64 (i:Int)∧Hid (DL w gr rb (rb+1) f (M.rdN f.data.toList i M.start 0).1 (M.rdN f.data.toList i M.start 0).2.2 (M.rdN f.data.toList i M.start 0).2.1 wr))
 case atStart=>exact ⟨0,by omega,rfl,hD⟩
 case round=>
  obtain ⟨i,hik,rfl,HR⟩:=hrel
  clear hD
  have hws:=HR.out.hb.lt
  obtain ⟨q1,q2⟩:=M.rdN_bd f.data.toList i
  cases gk with
  |zero=>
   obtain rfl:i=n:=by omega
   have hlt:¬(i:Int)<i:=by omega
   have hll:=M.rdN_len f.data.toList i M.start 0
   have hL:(M.rdN f.data.toList i M.start 0).1=M.dec f.data.toList i:=rfl
   rw[hL] at hll HR
   have HB:=Lib.hid (bstring (rb+1) (M.dec f.data.toList i) wr HR.out.hb.hf)
   have hbe:=Lib.hid HR.out.below
   have hg1:=HR.out.g1
   have hg2:=HR.out.g2
   clear HR q1 q2 hL
   have hds:dres f i=if (⟨(M.enc (M.dec f.data.toList i)).toArray⟩:ByteArray)=f then (⟨(M.dec f.data.toList i).toArray⟩,0) else (⟨#[]⟩,11):=rfl
   replace hds:=Lib.hid hds
   generalize M.dec f.data.toList i=l at *
   have hls:(⟨l.toArray⟩:ByteArray).size≤2500000:=by show l.toArray.size≤_;simp;omega
   go_wp2_with fail
   refine HB.out.mono ?_
   rintro e y ⟨rfl,hF,hy⟩
   have HE:=Lib.hid (encode_any ⟨l.toArray⟩ y hls)
   replace hF:=Lib.hid hF
   replace hy:=Lib.hid hy
   clear HB
   go_wp2_with fail
   refine HE.out.mono ?_
   rintro e z ⟨rfl,hz⟩
   have HB3:=Lib.hid (bstring (rb+1) l z (hF.out.grow hz))
   have hbz:=Lib.hid (hbe.out.trans ((hy.out.mono (by omega)).trans (Below.mono (show Below y.heap.size y z from hz) (Nat.le_trans hbe.out.size hy.out.size))))
   clear HE hF hy hz hbe
   generalize hQ:(⟨(M.enc l).toArray⟩:ByteArray)=q at *
   clear hQ
   by_cases hq:q=f
   ·go_wp2_with fail
    refine HB3.out.mono ?_
    rintro e u ⟨rfl,_,hu⟩
    replace hu:=Lib.hid hu
    go_wp2
    go_ret2
    exact ⟨by rw[hds.out,if_pos hq];rfl,hbz.out.trans (hu.out.mono (by omega))⟩
   ·have hql:(q.toList==f.toList)=false:=by rw[beq_bytes];exact decide_eq_false hq
    go_wp2
    go_ret2
    exact ⟨by rw[hds.out,if_neg hq];rfl,hbz.out⟩
  |succ k=>
   have hlt:i<n:=by omega
   have hm:(M.rdN f.data.toList i M.start 0).2.2≤80000000:=by omega
   have HE:=Lib.hid (each_any 195 _ _ _ _ (Lib.hid (di_cb (g:=gr) (rb:=rb) (bb:=wr.heap.size) (f:=f) (w1:=wr) q1 hm hf)) _ ⟨by omega,HR.out.di⟩)
   obtain ⟨b1,b2,b3,b4⟩:=M.rdc_bd f.data.toList _ (M.rdN f.data.toList i M.start 0).2.2 q1 8
   have ha:=M.acc_end _ b1 b2
   have HS:=Lib.hid (M.rdN_succ f.data.toList i M.start 0)
   have hll:=Lib.hid (M.rdN_len f.data.toList i M.start 0)
   generalize M.rdN f.data.toList i M.start 0=T at *
   clear b1 b2 b3 b4 q1 q2 hm
   go_wp2_with fail
   refine HE.out.mono ?_
   rintro e y ⟨rfl,_,hI⟩
   have hD2:=Lib.hid (HR.out.dl hI)
   have d2:y.cell? ⟨wr.heap.size,0,none⟩=some (.int .u8 (((UInt8.ofNat (M.rdc f.data.toList 8 1 T.2.1 T.2.2).1).toNat:Nat):Int)):=by rw[←ha,cell_of_row y _ 0 _ _ _ hI.hbb];rfl
   have HB2:=Lib.hid (wbyte (rb+1) _ (UInt8.ofNat (M.rdc f.data.toList 8 1 T.2.1 T.2.2).1) y hD2.out.hb (by rw[hll.out];omega))
   clear hI HE HR ha
   go_wp2_with fail
   refine HB2.out.mono ?_
   rintro e z ⟨rfl,h1,h2⟩
   have hD3:=Lib.hid (hD2.out.wb h1 h2)
   clear h1 h2 hD2 HB2 d2
   go_wp2
   go_roundg k
   case measure=>omega
   case rel=>
    refine ⟨i+1,by omega,by rw[Int.natCast_add];rfl,?_⟩
    rw[HS.out]
    exact hD3
end
end Go.Proofs.YtpdckpifhniioaaGreat.Cod
end
section
set_option linter.unusedVariables false
set_option linter.unusedSimpArgs false
namespace Go.Proofs.YtpdckpifhniioaaGreat.Prd
open Go.RowKit
open Go.Proofs.YtpdckpifhniioaaGreat
section
namespace M
def swM (r b:UInt8):UInt8:=b+(r-b) / 2
def swU (r b:UInt8):UInt8:=r-b
def swV (r g b:UInt8):UInt8:=g-swM r b
def swY (r g b:UInt8):UInt8:=swM r b+swV r g b / 2
def bkM (y v:UInt8):UInt8:=y-v / 2
def bkB (y u v:UInt8):UInt8:=bkM y v-u / 2
def bkR (y u v:UInt8):UInt8:=bkB y u v+u
def bkG (y v:UInt8):UInt8:=v+bkM y v
theorem bk_m (r g b:UInt8):bkM (swY r g b) (swV r g b)=swM r b:=by unfold bkM swY;exact UInt8.add_sub_cancel _ _
theorem bk_b (r g b:UInt8):bkB (swY r g b) (swU r b) (swV r g b)=b:=by
 unfold bkB;rw[bk_m];unfold swM swU;exact UInt8.add_sub_cancel _ _
theorem bk_r (r g b:UInt8):bkR (swY r g b) (swU r b) (swV r g b)=r:=by
 unfold bkR;rw[bk_b];unfold swU;rw[UInt8.add_comm];exact UInt8.sub_add_cancel _ _
theorem bk_g (r g b:UInt8):bkG (swY r g b) (swV r g b)=g:=by
 unfold bkG;rw[bk_m];unfold swV;exact UInt8.sub_add_cancel _ _
def dist (l u c x:Int):Int:=max (l+u-c-x) (x-l-u+c)
def paeth (l u c:Int):Int:=
 if dist l u c u<dist l u c l then (if dist l u c c<dist l u c u then c else u)
 else (if dist l u c c<dist l u c l then c else l)
def median (l u c:Int):Int:=max (min l u) (min (max l u) (l+u-c))
def pred (k:Nat) (l u c:Int):Int:=
 match k with
 |1=>l
 |2=>u
 |3=>(l+u) / 2
 |4=>paeth l u c
 |5=>median l u c
 |_=>0
def InB (x:Int):Prop:=0≤x∧x≤255
theorem pred_in (k:Nat) (l u c:Int) (hl:InB l) (hu:InB u) (hc:InB c):InB (pred k l u c):=by
 unfold pred
 split
 ·exact hl
 ·exact hu
 ·unfold InB at *;omega
 ·unfold paeth;split<;>split<;>assumption
 ·unfold median InB at *;omega
 ·exact ⟨by omega,by omega⟩
def nbL (p:Nat→UInt8) (i:Nat):Int:=if i=0 then 0 else if i<8 then (p (i-1)).toNat else if i % 8=0 then (p (i-8)).toNat else (p (i-1)).toNat
def nbU (p:Nat→UInt8) (i:Nat):Int:=if i=0 then 0 else if i<8 then (p (i-1)).toNat else (p (i-8)).toNat
def nbC (p:Nat→UInt8) (i:Nat):Int:=if i=0 then 0 else if i<8 then (p (i-1)).toNat else if i % 8=0 then (p (i-8)).toNat else (p (i-9)).toNat
theorem byte_in (x:UInt8):InB (x.toNat:Int):=by have:=x.toNat_lt;unfold InB;omega
theorem zero_in:InB 0:=by unfold InB;omega
theorem nbL_in (p : Nat → UInt8) (i : Nat) : InB (nbL p i) := by unfold nbL; split; · exact zero_in
                                                                 split;· exact byte_in _
                                                                 split<;>exact byte_in _
theorem nbU_in (p : Nat → UInt8) (i : Nat) : InB (nbU p i) := by unfold nbU; split; · exact zero_in
                                                                 split<;>exact byte_in _
theorem nbC_in (p : Nat → UInt8) (i : Nat) : InB (nbC p i) := by unfold nbC; split; · exact zero_in
                                                                 split;· exact byte_in _
                                                                 split<;>exact byte_in _
def gi (k:Nat) (p:Nat→UInt8) (i:Nat):Int:=pred k (nbL p i) (nbU p i) (nbC p i)
theorem gi_in (k:Nat) (p:Nat→UInt8) (i:Nat):InB (gi k p i):=pred_in _ _ _ _ (nbL_in p i) (nbU_in p i) (nbC_in p i)
def gs (k:Nat) (p:Nat→UInt8) (i:Nat):UInt8:=UInt8.ofNat (gi k p i).toNat
theorem gs_val (k:Nat) (p:Nat→UInt8) (i:Nat):((gs k p i).toNat:Int)=gi k p i:=by
 have h:=gi_in k p i
 unfold InB at h
 unfold gs
 simp
 omega
theorem gi_congr (k:Nat) (p q:Nat→UInt8) (i:Nat) (h:∀m,m<i→p m=q m):gi k p i=gi k q i:=by
 have hL:nbL p i=nbL q i:=by
  unfold nbL
  split;· rfl
  split;· rw[h _ (by omega)]
  split<;>rw[h _ (by omega)]
 have hU:nbU p i=nbU q i:=by
  unfold nbU
  split;· rfl
  split<;>rw[h _ (by omega)]
 have hC:nbC p i=nbC q i:=by
  unfold nbC
  split;· rfl
  split;· rw[h _ (by omega)]
  split
  ·rw[h _ (by omega)]
  ·rw[h _ (by omega)]
 unfold gi
 rw[hL,hU,hC]
theorem gs_congr (k:Nat) (p q:Nat→UInt8) (i:Nat) (h:∀m,m<i→p m=q m):gs k p i=gs k q i:=by
 unfold gs;rw[gi_congr k p q i h]
def pl (p:Nat→UInt8) (q:Nat):Nat→UInt8:=fun i=>p (64*q+i)
def res (k:Nat) (p:Nat→UInt8) (j:Nat):UInt8:=p j-gs k (pl p (j / 64)) (j % 64)
def tab (n:Nat) (f:Nat→UInt8):List UInt8:=(List.range n).map f
theorem tab_length (n:Nat) (f:Nat→UInt8):(tab n f).length=n:=by simp[tab]
theorem tab_get (n:Nat) (f:Nat→UInt8) (i:Nat) (h:i<(tab n f).length):(tab n f)[i]=f i:=by simp[tab]
def put (p:Nat→UInt8) (j:Nat) (v:UInt8):Nat→UInt8:=fun i=>if i=j then v else p i
theorem put_same (p:Nat→UInt8) (j:Nat) (v:UInt8):put p j v j=v:=by simp[put]
theorem put_other (p:Nat→UInt8) (j:Nat) (v:UInt8) (i:Nat) (h:i≠j):put p j v i=p i:=by simp[put,h]
def unp (k:Nat) (s:Nat→UInt8):Nat→Nat→UInt8
 |0=>fun _=>0
 |n+1=>put (unp k s n) n (s n+gs k (pl (unp k s n) (n / 64)) (n % 64))
theorem unp_later (k:Nat) (s:Nat→UInt8) (n j:Nat) (h:j<n):unp k s n j=unp k s (j+1) j:=by
 induction n with
 |zero=>omega
 |succ n ih=>
  by_cases e:j=n
  ·subst e;rfl
  ·have:unp k s (n+1) j=unp k s n j:=put_other _ _ _ _ e
   rw[this,ih (by omega)]
theorem unp_at (k:Nat) (s:Nat→UInt8) (n j:Nat) (h:j<n):unp k s n j=s j+gs k (pl (unp k s n) (j / 64)) (j % 64):=by
 rw[unp_later k s n j h]
 show put _ _ _ _=_
 rw[put_same]
 congr 1
 refine gs_congr _ _ _ _ fun m hm=>?_
 show unp k s j (64*(j / 64)+m)=unp k s n (64*(j / 64)+m)
 rw[unp_later k s n _ (by omega),unp_later k s j _ (by omega)]
theorem unp_res (k:Nat) (p:Nat→UInt8) (n:Nat):∀j,j<n→unp k (res k p) n j=p j:=by
 intro j
 induction j using Nat.strongRecOn with
 |_ j ih=>
  intro hj
  rw[unp_at k _ n j hj]
  have:gs k (pl (unp k (res k p) n) (j / 64)) (j % 64)=gs k (pl p (j / 64)) (j % 64):=gs_congr _ _ _ _ fun m hm=>by
   show unp k (res k p) n (64*(j / 64)+m)=p (64*(j / 64)+m)
   exact ih _ (by omega) (by omega)
  rw[this]
  unfold res
  exact UInt8.sub_add_cancel _ _
theorem unp_congr (k:Nat) (s t:Nat→UInt8):∀n,(∀j,j<n→s j=t j)→unp k s n=unp k t n
 |0,_=>rfl
 |n+1,h=>by
  show put _ _ _=put _ _ _
  rw[unp_congr k s t n (fun j hj=>h j (by omega)),h n (by omega)]
def cb (b:UInt8):Nat:=min b.toNat (256-b.toNat)
def cost (l:List UInt8):Nat:=(l.map cb).sum
theorem cost_append (l m:List UInt8):cost (l++m)=cost l+cost m:=by simp[cost]
theorem cost_cons (b:UInt8) (m:List UInt8):cost (b::m)=cb b+cost m:=by simp[cost]
theorem cb_le (b:UInt8):cb b≤128:=by have:=b.toNat_lt;unfold cb;omega
theorem cost_le (l:List UInt8):cost l≤128*l.length:=by
 induction l with
 |nil=>simp[cost]
 |cons b l ih=>rw[cost_cons,List.length_cons];have:=cb_le b;omega
end M
end
end Go.Proofs.YtpdckpifhniioaaGreat.Prd
end
section
set_option linter.unusedVariables false
set_option linter.unusedSimpArgs false
namespace Go.Proofs.YtpdckpifhniioaaGreat.Prd
open Go.RowKit
open Go.Proofs.YtpdckpifhniioaaGreat
section
theorem ret_int {k:IntKind} {a b:Int} (h:a=b):Ending.returned (.int k a)=.returned (.int k b):=by rw[h]
section
variable {P:Program}
end
section
variable {P:Program}
end
theorem str_size (l:List UInt8):(⟨l.toArray⟩:ByteArray).size=l.length:=by
 simp[ByteArray.size]
end
section
theorem bt {w w1 w2:World} (h:Below w.heap.size w w1) (k:Below w1.heap.size w1 w2):Below w.heap.size w w2:=h.trans (k.mono h.size)
section
variable {P:Program} {ops:Array Oper} {C:World→Prop} {Q:Act→Prop} {rest:List Oper} {o:Oper} {a:Act}
end
end
section
theorem half_nat (a:UInt8):(a / 2).toNat=a.toNat / 2:=by rw[UInt8.toNat_div];rfl
theorem e_bkM (y v:UInt8):((y.toNat:Int)-(v.toNat:Int) / 2) % 256=((M.bkM y v).toNat:Int):=by
 have:=y.toNat_lt;have:=v.toNat_lt
 unfold M.bkM
 rw[UInt8.toNat_sub,half_nat];omega
theorem e_bkB (y u v:UInt8):(((y.toNat:Int)-(v.toNat:Int) / 2) % 256-(u.toNat:Int) / 2) % 256=((M.bkB y u v).toNat:Int):=by
 rw[e_bkM]
 have:=(M.bkM y v).toNat_lt;have:=u.toNat_lt
 unfold M.bkB
 rw[UInt8.toNat_sub,half_nat];omega
theorem e_bkR (y u v:UInt8):((((y.toNat:Int)-(v.toNat:Int) / 2-(u.toNat:Int) / 2) % 256+(u.toNat:Int)) % 256)=((M.bkR y u v).toNat:Int):=by
 have h:((y.toNat:Int)-(v.toNat:Int) / 2-(u.toNat:Int) / 2) % 256=((M.bkB y u v).toNat:Int):=by rw[←e_bkB];omega
 rw[h]
 have:=(M.bkB y u v).toNat_lt;have:=u.toNat_lt
 unfold M.bkR
 rw[UInt8.toNat_add];omega
theorem e_bkG (y v:UInt8):((v.toNat:Int)+((y.toNat:Int)-(v.toNat:Int) / 2) % 256) % 256=((M.bkG y v).toNat:Int):=by
 rw[e_bkM]
 have:=(M.bkM y v).toNat_lt;have:=v.toNat_lt
 unfold M.bkG
 rw[UInt8.toNat_add];omega
set_option maxHeartbeats 400000 in
theorem back_any (y u v:UInt8) (w:World) :
  Calls Tryz.prog 198 #[.int .u8 y.toNat,.int .u8 u.toNat,.int .u8 v.toNat] w fun e w'=>
   e=.returned (.tuple #[.int .u8 (M.bkR y u v).toNat,.int .u8 (M.bkG y v).toNat,.int .u8 (M.bkB y u v).toNat])∧w=w':=by
 go_enter Tryz.func198,Tryz.ntmps198
 go_wp2
 go_ret3
 exact ⟨by rw[←e_bkR,←e_bkG,←e_bkB];rfl,rfl⟩
theorem fn1 (l u c:Int) (w:World):Calls Tryz.prog 180 #[.int .i64 l,.int .i64 u,.int .i64 c] w fun e w'=>e=.returned (.int .i64 0)∧w=w':=by
 go_enter Tryz.func180,Tryz.ntmps180
 go_wp2
 go_ret
 exact ⟨rfl,rfl⟩
theorem fn2 (l u c:Int) (w:World):Calls Tryz.prog 181 #[.int .i64 l,.int .i64 u,.int .i64 c] w fun e w'=>e=.returned (.int .i64 l)∧w=w':=by
 go_enter Tryz.func181,Tryz.ntmps181
 go_wp2
 go_ret
 exact ⟨rfl,rfl⟩
theorem fn3 (l u c:Int) (w:World):Calls Tryz.prog 182 #[.int .i64 l,.int .i64 u,.int .i64 c] w fun e w'=>e=.returned (.int .i64 u)∧w=w':=by
 go_enter Tryz.func182,Tryz.ntmps182
 go_wp2
 go_ret
 exact ⟨rfl,rfl⟩
theorem fn4 (l u c:Int) (w:World) (hl:0≤l∧l≤255) (hu:0≤u∧u≤255):Calls Tryz.prog 183 #[.int .i64 l,.int .i64 u,.int .i64 c] w fun e w'=>e=.returned (.int .i64 ((l+u) / 2))∧w=w':=by
 obtain ⟨l0,l1⟩:=hl
 obtain ⟨u0,u1⟩:=hu
 go_enter Tryz.func183,Tryz.ntmps183
 go_wp2
 go_ret
 exact ⟨rfl,rfl⟩
theorem fn6 (l u c:Int) (w:World) (hl:0≤l∧l≤255) (hu:0≤u∧u≤255) (hc:0≤c∧c≤255):Calls Tryz.prog 185 #[.int .i64 l,.int .i64 u,.int .i64 c] w fun e w'=>e=.returned (.int .i64 (M.median l u c))∧w=w':=by
 obtain ⟨l0,l1⟩:=hl
 obtain ⟨u0,u1⟩:=hu
 obtain ⟨c0,c1⟩:=hc
 go_enter Tryz.func185,Tryz.ntmps185
 go_wp2
 all_goals
  go_ret
  exact ⟨ret_int (by unfold M.median;(repeat split at *)<;>omega),rfl⟩
end
section
set_option maxHeartbeats 400000 in
theorem fn5 (l u c:Int) (w:World) (hl:0≤l∧l≤255) (hu:0≤u∧u≤255) (hc:0≤c∧c≤255):Calls Tryz.prog 184 #[.int .i64 l,.int .i64 u,.int .i64 c] w fun e w'=>e=.returned (.int .i64 (M.paeth l u c))∧w=w':=by
 obtain ⟨l0,l1⟩:=hl
 obtain ⟨u0,u1⟩:=hu
 obtain ⟨c0,c1⟩:=hc
 go_enter Tryz.func184,Tryz.ntmps184
 have i0:∀w,(Instr.index 54 (.agg #[.int .i64 l,.int .i64 u,.int .i64 c]) (.int .i64 0)).run Tryz.prog w=.ok (.int .i64 l) w:=fun _=>by kernel_rfl
 have i1:∀w,(Instr.index 54 (.agg #[.int .i64 l,.int .i64 u,.int .i64 c]) (.int .i64 1)).run Tryz.prog w=.ok (.int .i64 u) w:=fun _=>by kernel_rfl
 have i2:∀w,(Instr.index 54 (.agg #[.int .i64 l,.int .i64 u,.int .i64 c]) (.int .i64 2)).run Tryz.prog w=.ok (.int .i64 c) w:=fun _=>by kernel_rfl
 go_wp2
 refine wp_loop_rounds 4 ?_
 iterate 4 (any_goals (rw[rounds_succ];go_wp2_with fail))
 all_goals
  go_ret
  refine ⟨ret_int ?_,rfl⟩
  clear i0 i1 i2
  go_light
  unfold M.paeth M.dist
  (repeat split at *)<;>omega
end
section
def prC:Array Value:=#[.string ⟨#[110,111,110,101]⟩,.func (.func 180) #[] #[],.string ⟨#[108,101,102,116]⟩,.func (.func 181) #[] #[],.string ⟨#[117,112]⟩,.func (.func 182) #[] #[],
 .string ⟨#[97,118,101,114,97,103,101]⟩,.func (.func 183) #[] #[],.string ⟨#[112,97,101,116,104]⟩,.func (.func 184) #[] #[],.string ⟨#[109,101,100,105,97,110,32,101,100,103,101]⟩,.func (.func 185) #[] #[]]
theorem prC_at (k:Nat) (h:k<6):prC[k*2+1]? = some (.func (.func (180+k)) #[] #[]):=by
 match k,h with
 |0,_=>rfl
 |1,_=>rfl
 |2,_=>rfl
 |3,_=>rfl
 |4,_=>rfl
 |5,_=>rfl
theorem enter_fn (k:Nat) (h:k<6) (args:Array Value) (w:World):(callFunc (180+k) args).run Tryz.prog w=.ok (.enter (180+k) args) w:=by
 match k,h with
 |0,_=>show (callFunc 180 args).run Tryz.prog w=.ok (.enter 180 args) w;simp[callFunc,go_sem,Tryz.func180];rfl
 |1,_=>show (callFunc 181 args).run Tryz.prog w=.ok (.enter 181 args) w;simp[callFunc,go_sem,Tryz.func181];rfl
 |2,_=>show (callFunc 182 args).run Tryz.prog w=.ok (.enter 182 args) w;simp[callFunc,go_sem,Tryz.func182];rfl
 |3,_=>show (callFunc 183 args).run Tryz.prog w=.ok (.enter 183 args) w;simp[callFunc,go_sem,Tryz.func183];rfl
 |4,_=>show (callFunc 184 args).run Tryz.prog w=.ok (.enter 184 args) w;simp[callFunc,go_sem,Tryz.func184];rfl
 |5,_=>show (callFunc 185 args).run Tryz.prog w=.ok (.enter 185 args) w;simp[callFunc,go_sem,Tryz.func185];rfl
theorem fn_any (k:Nat) (h:k<6) (l u c:Int) (w:World) (hl:0≤l∧l≤255) (hu:0≤u∧u≤255) (hc:0≤c∧c≤255) :
  Calls Tryz.prog (180+k) #[.int .i64 l,.int .i64 u,.int .i64 c] w fun e w'=>e=.returned (.int .i64 (M.pred k l u c))∧w=w':=by
 match k,h with
 |0,_=>exact fn1 l u c w
 |1,_=>exact fn2 l u c w
 |2,_=>exact fn3 l u c w
 |3,_=>exact fn4 l u c w hl hu
 |4,_=>exact fn5 l u c w hl hu hc
 |5,_=>exact fn6 l u c w hl hu hc
theorem predictors_any (w:World):Calls Tryz.prog 150 #[] w fun e w'=>e=.returned (.slice (some ⟨w.heap.size,0,none⟩) 6 6)∧w.alloc (.cells prC 196)=w':=by
 go_enter Tryz.func150,Tryz.ntmps150
 go_wp2
 go_ret
 exact ⟨rfl,rfl⟩
theorem Predictors_any (w:World):Calls Tryz.prog 147 #[] w fun e w'=>e=.returned (.int .i64 6)∧Below w.heap.size w w':=by
 go_enter Tryz.func147,Tryz.ntmps147
 go_wp2_with fail
 refine (predictors_any _).mono ?_
 rintro e w' ⟨rfl,rfl⟩
 go_wp2_with fail
 go_ret
 exact ⟨rfl,(Below.refl _ _).alloc (Nat.le_refl _) _⟩
theorem at_any (b o g:Nat) (x:UInt8) (i:Nat) (hi:i<64) (w:World) (hg:w.cell? ⟨g,0,none⟩=some (.pointer (some ⟨b,o,none⟩))) (hp:w.cell? ⟨b,o+i,none⟩=some (.int .u8 x.toNat)) :
  Calls Tryz.prog 186 #[.int .i64 i,.pointer (some ⟨g,0,none⟩)] w fun e w'=>e=.returned (.int .i64 x.toNat)∧w=w':=by
 have hx:=x.toNat_lt
 go_enter Tryz.func186,Tryz.ntmps186
 go_wp2_with fail
 go_ret
 exact ⟨rfl,rfl⟩
theorem at_new (b o:Nat) (p:Nat→UInt8) (m:Nat) (n:Int) (hn:n=(m:Int)) (hm:m<64) (w:World) (hb:b<w.heap.size) (hp:w.cell? ⟨b,o+m,none⟩=some (.int .u8 (p m).toNat)) :
  Calls Tryz.prog 186 #[.int .i64 n,.pointer (some ⟨w.heap.size,0,none⟩)] (w.alloc (.cells #[.pointer (some ⟨b,o,none⟩)] 226)) fun e w'=>e=.returned (.int .i64 (p m).toNat)∧w.alloc (.cells #[.pointer (some ⟨b,o,none⟩)] 226)=w':=by
 subst hn
 refine at_any b o w.heap.size (p m) m hm _ ?_ ?_
 ·rw[World.cell?_alloc_mark];rfl
 ·rw[((Below.refl w.heap.size w).alloc (Nat.le_refl _) _).cell (p:=⟨b,o+m,none⟩) hb];exact hp
theorem gi0 (k:Nat) (hk:k<6) (p:Nat→UInt8) (w:World):Calls Tryz.prog (180+k) #[.int .i64 0,.int .i64 0,.int .i64 0] w fun e w'=>e=.returned (.int .i64 (M.gi k p 0))∧w=w':=
 fn_any k hk 0 0 0 w M.zero_in M.zero_in M.zero_in
theorem gi1 (k:Nat) (hk:k<6) (p:Nat→UInt8) (i:Nat) (h0:¬i=0) (h8:i<8) (w:World):Calls Tryz.prog (180+k) #[.int .i64 (p (i-1)).toNat,.int .i64 (p (i-1)).toNat,.int .i64 (p (i-1)).toNat] w fun e w'=>e=.returned (.int .i64 (M.gi k p i))∧w=w':=by
 have h:=fn_any k hk _ _ _ w (M.byte_in (p (i-1))) (M.byte_in (p (i-1))) (M.byte_in (p (i-1)))
 have e:M.pred k (p (i-1)).toNat (p (i-1)).toNat (p (i-1)).toNat=M.gi k p i:=by unfold M.gi M.nbL M.nbU M.nbC;simp only[h0,h8,if_true,if_false]
 rwa [e] at h
theorem gi2 (k:Nat) (hk:k<6) (p:Nat→UInt8) (i:Nat) (h8:¬i<8) (hm:i % 8=0) (w:World):Calls Tryz.prog (180+k) #[.int .i64 (p (i-8)).toNat,.int .i64 (p (i-8)).toNat,.int .i64 (p (i-8)).toNat] w fun e w'=>e=.returned (.int .i64 (M.gi k p i))∧w=w':=by
 have h:=fn_any k hk _ _ _ w (M.byte_in (p (i-8))) (M.byte_in (p (i-8))) (M.byte_in (p (i-8)))
 have h0:¬i=0:=by omega
 have e:M.pred k (p (i-8)).toNat (p (i-8)).toNat (p (i-8)).toNat=M.gi k p i:=by unfold M.gi M.nbL M.nbU M.nbC;simp only[h0,h8,hm,if_true,if_false]
 rwa [e] at h
theorem gi3 (k:Nat) (hk:k<6) (p:Nat→UInt8) (i:Nat) (h8:¬i<8) (hm:¬i % 8=0) (w:World):Calls Tryz.prog (180+k) #[.int .i64 (p (i-1)).toNat,.int .i64 (p (i-8)).toNat,.int .i64 (p (i-9)).toNat] w fun e w'=>e=.returned (.int .i64 (M.gi k p i))∧w=w':=by
 have h:=fn_any k hk _ _ _ w (M.byte_in (p (i-1))) (M.byte_in (p (i-8))) (M.byte_in (p (i-9)))
 have h0:¬i=0:=by omega
 have e:M.pred k (p (i-1)).toNat (p (i-8)).toNat (p (i-9)).toNat=M.gi k p i:=by unfold M.gi M.nbL M.nbU M.nbC;simp only[h0,h8,hm,if_false]
 rwa [e] at h
set_option maxRecDepth 100000 in
set_option maxHeartbeats 800000 in
theorem guess_any (k:Nat) (hk:k<6) (b o:Nat) (p:Nat→UInt8) (i:Nat) (hi:i<64) (w:World) (hb:b<w.heap.size) (hp:∀m,m<i→w.cell? ⟨b,o+m,none⟩=some (.int .u8 (p m).toNat)) :
  Calls Tryz.prog 151 #[.pointer (some ⟨b,o,none⟩),.int .i64 i,.func (.func (180+k)) #[] #[]] w fun e w'=>e=.returned (.int .u8 (M.gs k p i).toNat)∧Below w.heap.size w w':=by
 have hgv:=M.gs_val k p i
 have hgi:=M.gi_in k p i
 unfold M.InB at hgi
 obtain ⟨hg0,hg1⟩:=hgi
 have HG:=Lib.hid hgv
 clear hgv
 have HP:=Lib.hid hp
 clear hp
 have ef:=enter_fn k hk
 by_cases h0:i=0
 ·subst h0
  go_enter Tryz.func151,Tryz.ntmps151
  go_wp2_with fail
  refine (gi0 k hk p _).mono ?_
  rintro e w' ⟨rfl,rfl⟩
  go_wp2_with fail
  go_ret
  exact ⟨ret_int HG.out.symm,(Below.refl _ _).alloc (Nat.le_refl _) _⟩
 ·by_cases h8:i<8
  ·go_enter Tryz.func151,Tryz.ntmps151
   go_wp2_with fail
   refine (at_new b o p (i-1) _ (by omega) (by omega) w hb (HP.out _ (by omega))).mono ?_
   rintro e w' ⟨rfl,rfl⟩
   go_wp2_with fail
   refine (at_new b o p (i-1) _ (by omega) (by omega) w hb (HP.out _ (by omega))).mono ?_
   rintro e w' ⟨rfl,rfl⟩
   go_wp2_with fail
   refine (at_new b o p (i-1) _ (by omega) (by omega) w hb (HP.out _ (by omega))).mono ?_
   rintro e w' ⟨rfl,rfl⟩
   go_wp2_with fail
   refine (gi1 k hk p i h0 h8 _).mono ?_
   rintro e w' ⟨rfl,rfl⟩
   go_wp2_with fail
   go_ret
   exact ⟨ret_int HG.out.symm,(Below.refl _ _).alloc (Nat.le_refl _) _⟩
  ·by_cases hm:i % 8=0
   ·have hm8:(i:Int) % 8=0:=by omega
    go_enter Tryz.func151,Tryz.ntmps151
    go_wp2_with fail
    refine (at_new b o p (i-8) _ (by omega) (by omega) w hb (HP.out _ (by omega))).mono ?_
    rintro e w' ⟨rfl,rfl⟩
    go_wp2_with fail
    refine (gi2 k hk p i h8 hm _).mono ?_
    rintro e w' ⟨rfl,rfl⟩
    go_wp2_with fail
    go_ret
    exact ⟨ret_int HG.out.symm,(Below.refl _ _).alloc (Nat.le_refl _) _⟩
   ·have hm8:((i:Int) % 8==0)=false:=by simp;omega
    go_enter Tryz.func151,Tryz.ntmps151
    go_wp2_with fail
    refine (at_new b o p (i-1) _ (by omega) (by omega) w hb (HP.out _ (by omega))).mono ?_
    rintro e w' ⟨rfl,rfl⟩
    go_wp2_with fail
    refine (at_new b o p (i-8) _ (by omega) (by omega) w hb (HP.out _ (by omega))).mono ?_
    rintro e w' ⟨rfl,rfl⟩
    go_wp2_with fail
    refine (at_new b o p (i-9) _ (by omega) (by omega) w hb (HP.out _ (by omega))).mono ?_
    rintro e w' ⟨rfl,rfl⟩
    go_wp2_with fail
    refine (gi3 k hk p i h8 hm _).mono ?_
    rintro e w' ⟨rfl,rfl⟩
    go_wp2_with fail
    go_ret
    exact ⟨ret_int HG.out.symm,(Below.refl _ _).alloc (Nat.le_refl _) _⟩
end
section
end
end Go.Proofs.YtpdckpifhniioaaGreat.Prd
end
section
set_option linter.unusedVariables false
set_option linter.unusedSimpArgs false
namespace Go.Proofs.YtpdckpifhniioaaGreat.Prd
open Go.RowKit
open Go.Proofs.YtpdckpifhniioaaGreat
section
def cf (n:Nat) (f:Nat→UInt8):Array Value:=((List.range n).map fun i=>Value.int .u8 ((f i).toNat:Int)).toArray
theorem cf_size (n:Nat) (f:Nat→UInt8):(cf n f).size=n:=by simp[cf]
theorem cf_at (n:Nat) (f:Nat→UInt8) (i:Nat) (h:i<n):(cf n f)[i]? = some (.int .u8 ((f i).toNat:Int)):=by simp[cf,h]
theorem cf_none (n:Nat) (f:Nat→UInt8) (i:Nat) (h:n≤i):(cf n f)[i]? = none:=by simp[cf,h]
theorem cf_congr (n:Nat) (f g:Nat→UInt8) (h:∀i,i<n→f i=g i):cf n f=cf n g:=by
 unfold cf
 congr 1
 exact List.map_congr_left fun i hi=>by rw[h i (by simpa using hi)]
theorem cf_set (n:Nat) (f:Nat→UInt8) (i:Nat) (v:UInt8):(cf n f).setIfInBounds i (.int .u8 (v.toNat:Int))=cf n (M.put f i v):=by
 apply Array.ext_getElem?
 intro j
 rw[Array.getElem?_setIfInBounds]
 by_cases hj:j<n
 ·rw[cf_at n (M.put f i v) j hj]
  by_cases e:i=j
  ·subst e;rw[if_pos rfl,if_pos (by rw[cf_size];exact hj),M.put_same]
  ·rw[if_neg e,cf_at n f j hj,M.put_other _ _ _ _ (fun h=>e h.symm)]
 ·rw[cf_none n (M.put f i v) j (by omega)]
  by_cases e:i=j
  ·subst e;rw[if_pos rfl,if_neg (by rw[cf_size];exact hj)]
  ·rw[if_neg e,cf_none n f j (by omega)]
theorem cf_one (n:Nat) (f:Nat→UInt8):(cf n f).all (·.oneCell')=true:=by
 rw[Array.all_eq_true]
 intro i hi
 have h:=cf_at n f i (by rw[cf_size] at hi;exact hi)
 rw[Array.getElem?_eq_getElem hi] at h
 rw[Option.some.inj h];rfl
def Bk (g:Nat) (t:TypeId) (n:Nat) (f:Nat→UInt8) (w:World):Prop:=w.heap[g]? = some (.cells (cf n f) t (0,0))
theorem Bk.lt {g t n f w} (h:Bk g t n f w):g<w.heap.size:=by
 rcases Nat.lt_or_ge g w.heap.size with h'|h'
 ·exact h'
 ·unfold Bk at h;rw[Array.getElem?_eq_none h'] at h;simp at h
theorem Bk.cell {g t n f w} (h:Bk g t n f w) (i:Nat) (hi:i<n):w.cell? ⟨g,i,none⟩=some (.int .u8 ((f i).toNat:Int)):=by
 rw[cell_of_row w g i _ _ _ h];exact cf_at n f i hi
theorem Bk.free {g t n f w} (h:Bk g t n f w) (i:Nat):w.frozen? ⟨g,i,none⟩=false:=frozen_of_row w g i _ _ h
theorem Bk.set {g t n f w} (h:Bk g t n f w) (i:Nat) (v:UInt8):Bk g t n (M.put f i v) (w.setCell ⟨g,i,none⟩ (.int .u8 (v.toNat:Int))):=by
 unfold Bk
 rw[heap_setCell_same _ _ _ _ _ _ h,cf_set]
theorem Bk.other {g t n f w} (h:Bk g t n f w) (a:Addr) (v:Value) (hne:g≠a.block):Bk g t n f (w.setCell a v):=by
 unfold Bk
 rw[heap_setCell_other _ _ _ _ hne];exact h
theorem Bk.keep {g t n f w w1} (h:Bk g t n f w) (hb:Below w.heap.size w w1):Bk g t n f w1:=by
 have hl:=h.lt
 unfold Bk at h⊢
 rw[hb.block _ hl];exact h
theorem Bk.drew {g t n f w} (h:Bk g t n f w):Bk g t n f w.drew:=h
theorem Bk.alloc {g t n f w} (h:Bk g t n f w) (o:Obj):Bk g t n f (w.alloc o):=h.keep ((Below.refl _ _).alloc (Nat.le_refl _) o)
theorem Bk.new (w:World) (t:TypeId) (n:Nat) (f:Nat→UInt8):Bk w.heap.size t n f (w.alloc (.cells (cf n f) t)):=heap_alloc_new _ _
theorem Bk.congr {g t n f f' w} (h:Bk g t n f w) (he:∀i,i<n→f i=f' i):Bk g t n f' w:=by
 unfold Bk at h⊢
 rw[h,cf_congr n f f' he]
theorem Tryz.zero191 (w:World):(zeroValue 191).run Tryz.prog w=.ok (.agg (cf 256 fun _=>0)) w:=by kernel_rfl
theorem Tryz.zero38 (w:World):(zeroValue 38).run Tryz.prog w=.ok (.agg (cf 256 fun _=>0)) w:=by kernel_rfl
theorem Tryz.size38:(Tryz.prog.info? 38).map (·.size)=some 256:=by kernel_rfl
end
section
section
variable {ops:Array Oper} {rest:List Oper} {op:Oper} {a:Act} {w:World} {Q:Exit→Act→World→Prop}
end
end
section
def plf (t:Nat→UInt8) (j:Nat):UInt8:=
 if j<64 then M.swY (t (4*j)) (t (4*j+1)) (t (4*j+2))
 else if j<128 then M.swU (t (4*(j-64))) (t (4*(j-64)+2))
 else if j<192 then M.swV (t (4*(j-128))) (t (4*(j-128)+1)) (t (4*(j-128)+2))
 else t (4*(j-192)+3)
def plN (t:Nat→UInt8) (n:Nat) (j:Nat):UInt8:=if j % 64<n then plf t j else 0
theorem plN_zero (t:Nat→UInt8):plN t 0=fun _=>0:=by funext j;simp[plN]
theorem plN_put (t:Nat→UInt8) (n:Nat) (h:n<64) (j:Nat) (hj:j<256) :
  M.put (M.put (M.put (M.put (plN t n) n (M.swY (t (4*n)) (t (4*n+1)) (t (4*n+2)))) (64+n) (M.swU (t (4*n)) (t (4*n+2)))) (128+n) (M.swV (t (4*n)) (t (4*n+1)) (t (4*n+2)))) (192+n) (t (4*n+3)) j=plN t (n+1) j:=by
 unfold M.put plN
 by_cases h1:j=192+n
 ·subst h1
  rw[if_pos rfl,if_pos (by omega)]
  unfold plf
  rw[if_neg (by omega),if_neg (by omega),if_neg (by omega),show 192+n-192=n by omega]
 rw[if_neg h1]
 by_cases h2:j=128+n
 ·subst h2
  rw[if_pos rfl,if_pos (by omega)]
  unfold plf
  rw[if_neg (by omega),if_neg (by omega),if_pos (by omega),show 128+n-128=n by omega]
 rw[if_neg h2]
 by_cases h3:j=64+n
 ·subst h3
  rw[if_pos rfl,if_pos (by omega)]
  unfold plf
  rw[if_neg (by omega),if_pos (by omega),show 64+n-64=n by omega]
 rw[if_neg h3]
 by_cases h4:j=n
 ·subst h4
  rw[if_pos rfl,if_pos (by omega)]
  unfold plf
  rw[if_pos (by omega)]
 rw[if_neg h4]
 by_cases h5:j % 64<n
 ·rw[if_pos h5,if_pos (by omega)]
 ·rw[if_neg h5,if_neg (by omega)]
theorem plN_full (t:Nat→UInt8) (j:Nat):plN t 64 j=plf t j:=by unfold plN;rw[if_pos (by omega)]
theorem guess_bk (k:Nat) (hk:k<6) (g:Nat) (p:Nat→UInt8) (q i:Nat) (hq:q<4) (hi:i<64) (w:World) (h:Bk g 191 256 p w) :
  Calls Tryz.prog 151 #[.pointer (some ⟨g,q*64,none⟩),.int .i64 i,.func (.func (180+k)) #[] #[]] w fun e w'=>e=.returned (.int .u8 (M.gs k (M.pl p q) i).toNat)∧Below w.heap.size w w':=
 guess_any k hk g (q*64) (M.pl p q) i hi w h.lt (fun m hm=>by
  have:=h.cell (q*64+m) (by omega)
  rw[this]
  unfold M.pl
  rw[Nat.mul_comm])
theorem cell_keep {w w1:World} {a:Addr} {v:Value} (h:w.cell? a=some v) (hb:Below w.heap.size w w1):w1.cell? a=some v:=by
 rw[hb.cell (block_lt_of_cell h)];exact h
end
end Go.Proofs.YtpdckpifhniioaaGreat.Prd
end
