/- Part 21 of what CodecPacks rests on. -/
import Derived.Deep.DeepCutAuto
import Derived.Deep.CutBlock
import Derived.Deep.LoopGhost
import Derived.Deep.WholeRow
import Derived.Laws.OwnMore
import Derived.Test.YtpdckpifhniioaaGreatVi
import Derived.Test.YtpdckpifhniioaaGreatVt
section
set_option linter.unusedVariables false
set_option linter.unusedSimpArgs false
namespace Go.Proofs.YtpdckpifhniioaaGreat.Cod
open Go.RowKit
open Go.Proofs.YtpdckpifhniioaaGreat
theorem below_grow {B:Nat} {W w w':World} (h:Below B W w) (hB:B≤w.heap.size) (hg:Grow w w'):Below B W w':=h.trans (Below.mono hg hB)
section
theorem own_set' {x:World} {B g:Nat} {T N:Nat} {Y:Nat→Value} {v:Value} {n:Nat} {xs:List Value} (h:x.ownsRow B 5 1 v n xs) (hT:T≠5) (hb:Blk x g T N Y) (i:Nat) (u:Value):(x.setCell ⟨g,i,none⟩ u).ownsRow B 5 1 v n xs:=
 h.kept (row:=some g) ⟨rfl,rfl,rfl,by simp[World.setCell],fun j hj hr=>heap_setCell_other _ _ _ _ (by intro e';exact hr (by rw[e']))⟩ (.inr (row_ne h hb hT).symm)
set_option maxRecDepth 100000 in
set_option maxHeartbeats 2000000 in
theorem rnarrow (T N:Nat) (hT:T≠5) (hN:258≤N) (g:Nat) (s:M.St) (hs:M.Ok s) (c bit:Int) (X:Nat→Value) (w:World) (hB:Blk w g T N (cr s.p s.lo s.hi X)) :
  Calls Tryz.prog 190 #[.pointer (some ⟨g,0,none⟩),.int .i64 c,.int .i64 bit] w fun e w'=>∃v,e=.returned v∧
   Blk w' g T N (cr (M.nxt s (cx c) (bit % 2)).p (M.nxt s (cx c) (bit % 2)).lo (M.nxt s (cx c) (bit % 2)).hi X)∧w'.ownsRow w.heap.size 5 1 v (M.outB s (cx c) (bit % 2)).length (bvals (M.outB s (cx c) (bit % 2)))∧Chg g none w w'∧v≠.slice none 0 0:=by
 have hk:=cx_lt c
 have hgw:=hB.lt
 have c0:=hB.cell (cx c) (by omega)
 rw[cr_p _ hk] at c0
 have HM:=Lib.hid (rmid_any g s hs c w c0 (by rw[hB.cell 256 (by omega),cr_lo]) (by rw[hB.cell 257 (by omega),cr_en]))
 obtain ⟨p1,p2⟩:=hs.p (cx c)
 have HI:=Lib.hid (M.iv1 hs (cx c) (bit % 2))
 have HX:=Lib.hid (show M.nxt s (cx c) (bit % 2)=⟨M.put s.p (cx c) (M.np (s.p (cx c)) (bit % 2)),(M.shs 4 (M.lo1 s (cx c) (bit % 2)) (M.hi1 s (cx c) (bit % 2))).2.1,(M.shs 4 (M.lo1 s (cx c) (bit % 2)) (M.hi1 s (cx c) (bit % 2))).2.2⟩ from rfl)
 have HO:=Lib.hid (show M.outB s (cx c) (bit % 2)=(M.shs 4 (M.lo1 s (cx c) (bit % 2)) (M.hi1 s (cx c) (bit % 2))).1 from rfl)
 have hmd:=M.md_in hs (cx c)
 have hl0:=hs.lo
 have hh1:=hs.hi
 have ha:=and_255 c
 rw[←cx_val] at ha
 have hb:=and_1 bit
 go_enter Tryz.func190,Tryz.ntmps190
 go_wp2_with fail
 refine HM.out.mono ?_
 rintro e x ⟨rfl,nn,rfl⟩
 have HB:=Lib.hid (show Blk (w.drewN nn) g T N (cr s.p s.lo s.hi X) from hB)
 have HC:=Lib.hid (show Chg g none w (w.drewN nn) from ⟨rfl,rfl,rfl,Nat.le_refl _,fun _ _ _ _=>rfl⟩)
 clear HM hB hs
 replace c0:(w.drewN nn).cell? ⟨g,cx c,none⟩=some (.int .i64 (s.p (cx c))):=c0
 generalize w.drewN nn=W at *
 go_upto_if 22 with fail
 have m0:0≤M.md s (cx c):=by omega
 have m1:IntKind.u32.wrap (M.md s (cx c)+1)=M.md s (cx c)+1:=w32 _ (by omega) (by omega)
 have c6:W.cell? ⟨g,256,none⟩=some (.int .u32 s.lo):=by rw[HB.out.cell 256 (by omega),cr_lo]
 have c7:W.cell? ⟨g,257,none⟩=some (.int .u32 s.hi):=by rw[HB.out.cell 257 (by omega),cr_en]
 have f6:=HB.out.free 256
 have f7:=HB.out.free 257
 go_cut [8] (fun s10 wx=>s10=.int .i64 (M.np (s.p (cx c)) (bit % 2))∧Blk wx g T N (cr s.p (M.lo1 s (cx c) (bit % 2)) (M.hi1 s (cx c) (bit % 2)) X)∧Chg g none w wx)
 case first=>
  by_cases hbit:bit % 2=1
  ·rw[hbit]
   go_wp2
   go_meet
   refine ⟨?_,?_,HC.out.set _ _⟩
   ·unfold M.np;rw[if_pos hbit]
   ·have:=HB.out.set 257 (.int .u32 (M.md s (cx c)))
    rw[cr_put_en] at this
    rw[show M.lo1 s (cx c) (bit % 2)=s.lo from if_pos hbit,show M.hi1 s (cx c) (bit % 2)=M.md s (cx c) from if_pos hbit]
    exact this
  ·obtain hbit:bit % 2=0:=by omega
   rw[hbit]
   go_wp2
   go_meet
   refine ⟨?_,?_,HC.out.set _ _⟩
   ·unfold M.np;rw[if_neg (by omega)]
   ·have:=HB.out.set 256 (.int .u32 (M.md s (cx c)+1))
    rw[cr_put_lo] at this
    rw[show M.lo1 s (cx c) (bit % 2)=M.md s (cx c)+1 from if_neg (by omega),show M.hi1 s (cx c) (bit % 2)=s.hi from if_neg (by omega)]
    exact this
 case rest=>
 clear HB HC m0 m1 c6 c7 f6 f7 c0 hmd hl0 hh1 hb
 obtain ⟨rfl,hB,hC⟩:=hcut
 obtain ⟨W1,hW1⟩:∃W1:World,W1=wc:=⟨_,rfl⟩
 subst hW1
 have n0:=M.np_bd ⟨p1,p2⟩ (bit % 2)
 have c0:=hB.cell (cx c) (by omega)
 rw[cr_p _ hk] at c0
 have f0:=hB.free (cx c)
 have HB:=Lib.hid (cr_put_p (cx c) hk _▸hB.set (cx c) (.int .i64 (M.np (s.p (cx c)) (bit % 2))))
 have HC:=Lib.hid (hC.set (cx c) (.int .i64 (M.np (s.p (cx c)) (bit % 2))))
 clear hB hC
 generalize M.np (s.p (cx c)) (bit % 2)=np at *
 generalize M.lo1 s (cx c) (bit % 2)=lo0 at *
 generalize M.hi1 s (cx c) (bit % 2)=hi0 at *
 clear p1 p2
 go_upto_block 1 with fail
 have hsz:w.heap.size≤W1.heap.size:=by have:=HC.out.size;simpa [World.setCell] using this
 go_loopg [9] 4 (fun k s9 wr=>∃(l':List UInt8) (lo hi:Int),Hid (M.Iv k lo hi∧l'++(M.shs k lo hi).1=(M.shs 4 lo0 hi0).1∧(M.shs k lo hi).2=(M.shs 4 lo0 hi0).2∧l'.length+k≤4∧Blk wr g T N (cr (M.put s.p (cx c) np) lo hi X)∧wr.ownsRow w.heap.size 5 1 s9 l'.length (bvals l')∧Chg g none w wr)∧s9≠.slice none 0 0)
 case atStart=>
  refine ⟨[],lo0,hi0,Lib.hid ⟨HI.out,rfl,rfl,Nat.le_refl _,HB.out.grow (Grow.alloc _ _),?_,HC.out.trans (.inl rfl) (Chg.of_grow (Grow.alloc _ _))⟩,fun e=>by cases e⟩
  exact ⟨rfl,Or.inr ⟨W1.heap.size,0,#[],rfl,hsz,by have:=heap_alloc_new (W1.setCell ⟨g,cx c,none⟩ (.int .i64 np)) (.cells #[] 5);simpa [World.setCell] using this,Nat.le_refl _,by unfold maxLen;omega,rfl,rfl⟩⟩
 case round=>
  obtain ⟨l',lo,hi,HR,hn9⟩:=hrel
  replace hn9:=Lib.hid hn9
  clear HB HC HI
  obtain ⟨i1,i2,i3,i4,i5,i6,i7⟩:=id HR.out
  have j0:=i1.lo
  have j1:=i1.le
  have j2:=i1.hi
  have c6:wr.cell? ⟨g,256,none⟩=some (.int .u32 lo):=by rw[i5.cell 256 (by omega),cr_lo]
  have c7:wr.cell? ⟨g,257,none⟩=some (.int .u32 hi):=by rw[i5.cell 257 (by omega),cr_en]
  have f6:=i5.free 256
  have f7:=i5.free 257
  clear i1 i2 i3 i4 i5 i6 i7
  go_upto_region 10 with fail
  refine q_region (C:=fun x=>∃n,x=wr.drewN n) (by kernel_rfl) (by kernel_rfl) ⟨1,rfl⟩ ?_
  repeat (first
   |go_big_quiet_skip
   |(go_big_quiet_want;refine q_val ?_;apply Exists.intro;refine ⟨fun x hx=>?_,?_⟩;(focus (obtain ⟨n,rfl⟩:=hx;go_simp<;>rfl));simp only[Act.put,List.setIfInBounds_toArray,List.set_cons_zero,List.set_cons_succ];go_big_quiet_on))
  refine wpQuiet_nil ?_
  rintro x ⟨n,rfl⟩
  go_upto_if 59 with fail
  have HR2:=Lib.hid (show M.Iv gk lo hi∧l'++(M.shs gk lo hi).1=(M.shs 4 lo0 hi0).1∧(M.shs gk lo hi).2=(M.shs 4 lo0 hi0).2∧l'.length+gk≤4∧Blk (wr.drewN n) g T N (cr (M.put s.p (cx c) np) lo hi X)∧(wr.drewN n).ownsRow w.heap.size 5 1 u9 l'.length (bvals l')∧Chg g none w (wr.drewN n) from
   ⟨HR.out.1,HR.out.2.1,HR.out.2.2.1,HR.out.2.2.2.1,HR.out.2.2.2.2.1,HR.out.2.2.2.2.2.1,⟨HR.out.2.2.2.2.2.2.os,HR.out.2.2.2.2.2.2.tape,HR.out.2.2.2.2.2.2.output,HR.out.2.2.2.2.2.2.size,HR.out.2.2.2.2.2.2.block⟩⟩)
  replace c6:(wr.drewN n).cell? ⟨g,256,none⟩=some (.int .u32 lo):=c6
  clear HR c7 f6 f7
  generalize wr.drewN n=W2 at *
  cases e:(lo / 16777216==hi / 16777216) with
  |true=>
   have e':lo / 16777216=hi / 16777216:=by simpa using e
   obtain ⟨i1,i2,i3,i4,i5,i6,i7⟩:=HR2.out
   clear HR2
   cases gk with
   |zero=>exact absurd e' i1.stop
   |succ k=>
    rw[M.shs_eq k lo hi e'] at i2 i3
    have in':=i1.next e'
    have hby:=(M.byt_val j0 (by omega)).symm
    have HP:=Lib.hid (And.intro i2 (And.intro i3 (And.intro i4 in')))
    have H5:=Lib.hid i5
    have H7:=Lib.hid i7
    have hw2:=i7.size
    have hl4:l'.length≤4:=by omega
    clear i1 i2 i3 i4 i5 i7 in' e'
    replace hby:=Lib.hid hby
    go_wp2_with (at_builtin;refine wp_push _ rfl _ _ 57 5 rfl Tryz.underlying57 (.int .u8 0) 1 infoU8 rfl w.heap.size _ _ _ rfl i6 _ _ rfl rfl (by omega) (by omega) hw2 ?_)
    intro v3 W3 hown hnil hb3 hz3
    have hB3:Blk W3 g T N (cr (M.put s.p (cx c) np) lo hi X):=by
     have:=hb3.block g hgw
     have h5:=H5.out
     unfold Blk at h5⊢;rw[this];exact h5
    have hC3:Chg g none w W3:=⟨hb3.os.trans H7.out.os,hb3.tape.trans H7.out.tape,hb3.output.trans H7.out.output,Nat.le_trans H7.out.size hb3.size,fun j hj hg hr=>(hb3.block j hj).trans (H7.out.block j hj hg hr)⟩
    have d6:W3.cell? ⟨g,256,none⟩=some (.int .u32 lo):=by rw[hB3.cell 256 (by omega),cr_lo]
    have d7:W3.cell? ⟨g,257,none⟩=some (.int .u32 hi):=by rw[hB3.cell 257 (by omega),cr_en]
    have f6:=hB3.free 256
    have f7:=hB3.free 257
    have HB3:=Lib.hid hB3
    have HC3:=Lib.hid hC3
    have HN3:=Lib.hid hown
    clear hB3 hC3 hown H5 H7 i6 hb3 c6
    go_wp2
    go_roundg k
    case measure=>omega
    case rel=>
     obtain ⟨i2,i3,i4,in'⟩:=HP.out
     have hsp:(hi*256+255) % 4294967296=hi*256 % 4294967296+255:=by omega
     rw[hsp] at in' i3
     have hB4:=HB3.out.set 256 (.int .u32 (lo*256 % 4294967296))
     rw[cr_put_lo] at hB4
     have hB5:=hB4.set 257 (.int .u32 (hi*256 % 4294967296+255))
     rw[cr_put_en] at hB5
     have hO5:=own_set' (own_set' HN3.out hT HB3.out 256 (.int .u32 (lo*256 % 4294967296))) hT hB4 257 (.int .u32 (hi*256 % 4294967296+255))
     rw[hsp] at i2
     refine ⟨l'++[M.byt lo],_,_,Lib.hid ⟨in',by rw[←i2,List.append_assoc];rfl,i3,by rw[List.length_append,List.length_singleton];omega,hB5,?_,((HC3.out.set _ _).set _ _)⟩,hnil⟩
     rw[bvals_append,List.length_append]
     rw[show bvals [M.byt lo]=[.int .u8 (lo / 16777216)] by rw[hby.out];rfl]
     exact hO5
  |false=>
   obtain ⟨i1,i2,i3,i4,i5,i6,i7⟩:=HR2.out
   clear HR2
   have e':lo / 16777216≠hi / 16777216:=by simpa using e
   rw[M.shs_ne _ lo hi e'] at i2 i3
   go_wp2
   go_ret
   refine ⟨_,rfl,?_,?_,i7,hn9.out⟩
   ·rw[HX.out]
    show Blk _ _ _ _ (cr _ (M.shs 4 _ _).2.1 (M.shs 4 _ _).2.2 _)
    rw[←i3];exact i5
   ·rw[HO.out,←i2];simpa using i6
end
section
theorem bgrow {B:Nat} {W w w':World} (h:Below B W w) (hB:B≤w.heap.size) (hg:Grow w w'):Below B W w':=h.trans (Below.mono hg hB)
theorem Tryz.zero236 (w:World):(zeroValue 236).run Tryz.prog w=.ok (.agg (cv 258 (cr (fun _=>0) 0 0 (fun _=>undef)))) w:=by kernel_rfl
theorem isAgg56 (w:World):(isAgg 236).run Tryz.prog w=.ok true w:=by kernel_rfl
theorem sizeOf56 (w:World):(sizeOf 236).run Tryz.prog w=.ok 258 w:=by kernel_rfl
theorem run_ld56 {o:Oper} {ρ:Operand→Value} {x:World} {y:Operand} (a:Addr) (S:Array Value) (ho:o.op=.load 236 y) (hy:ρ y=.pointer (some a)) (h:(loadCellsFrom a 0 258 #[]).run Tryz.prog x=.ok S x):(execOp ρ o).run Tryz.prog x=.ok (.value (.agg S)) x:=by
 unfold execOp;rw[ho];simp only[hy]
 simp only[Instr.loadAt,Instr.sureAddr,loadVar,Sem.run_bind,Sem.run_pure,Result.andThen,isAgg56,sizeOf56,loadCells,h,if_true]
theorem results_cell56 {fn:Func} {t:Tmp} (h:fn.results = #[.cell t 236]) (tmps:Array Value) (p:Addr) (S:Array Value) (w:World) (ht:tmps[t]?.getD undef=.pointer (some p)) (hl:(loadCellsFrom p 0 258 #[]).run Tryz.prog w=.ok S w) :
  (results fn tmps).run Tryz.prog w=.ok (.agg S) w:=by
 simp[results,h,ht,asAddr,loadVar,loadCells,hl]
theorem cv_one (n:Nat) (C:Nat→Value) (h:∀i,i<n→(C i).oneCell'=true):(cv n C).all (·.oneCell')=true:=by
 rw[Array.all_eq_true]
 intro i hi
 have hi':i<n:=by simpa [cv_size] using hi
 have:=cv_at n C i hi'
 rw[Array.getElem?_eq_getElem hi] at this
 rw[Option.some.inj this]
 exact h i hi'
theorem cr_one (p:Nat→Int) (lo hi:Int) (X:Nat→Value):∀i,i<258→(cr p lo hi X i).oneCell'=true:=by
 intro i h
 unfold cr
 by_cases h1:i<256
 ·rw[if_pos h1];rfl
 ·rw[if_neg h1]
  by_cases h2:i=256
  ·rw[if_pos h2];rfl
  ·rw[if_neg h2,if_pos (by omega)];rfl
theorem load_blk {w:World} {g t n:Nat} {C:Nat→Value} (h:Blk w g t n C) (m:Nat) (hm:m≤n):(loadCellsFrom ⟨g,0,none⟩ 0 m #[]).run Tryz.prog w=.ok (cv m C) w:=by
 have:=run_loadCells (P:=Tryz.prog) (w:=w) ⟨g,0,none⟩ m C (fun j hj=>by
  have hadd:(⟨g,0,none⟩:Addr).add j=⟨g,j,none⟩:=by unfold Addr.add;split<;>simp_all
  rw[hadd];exact h.cell j (by omega))
 exact this
theorem store_blk {w:World} {g t n:Nat} {C D:Nat→Value} (h:Blk w g t n C) (h1:∀i,i<n→(D i).oneCell'=true):∃w',(storeCells ⟨g,0,none⟩ (cv n D).toList 0).run Tryz.prog w=.ok () w'∧Blk w' g t n D∧Chg g none w w':=by
 refine ⟨_,run_storeCells_from (P:=Tryz.prog) g t _ 0 _ w h (by simp[cv_size]) (fun v hv=>?_),?_,?_⟩
 ·have:=Array.all_eq_true.1 (cv_one n D h1)
  obtain ⟨i,hi,rfl⟩:=Array.mem_iff_getElem.1 (Array.mem_toList_iff.1 hv)
  exact this i hi
 ·unfold Blk
  rw[setRow_heap w g _ _ t (0,0) h]
  simp
 ·refine ⟨rfl,rfl,rfl,by simp[World.setRow],fun k hk hg _=>?_⟩
  simp only[World.setRow,Array.getElem?_modify]
  rw[if_neg (Ne.symm hg)]
set_option maxRecDepth 100000 in
set_option maxHeartbeats 1000000 in
theorem begin_any (w:World):Calls Tryz.prog 189 #[] w fun e w'=>e=.returned (.agg (cv 258 (cr M.start.p M.start.lo M.start.hi (fun _=>undef))))∧Grow w w':=by
 have hz:=Tryz.zero236
 have hset:=cv_set 258 (cr (fun _=>0) 0 0 (fun _=>undef)) 257 (.int .u32 4294967295)
 rw[cr_put_en] at hset
 have hzs:¬(cv 258 (cr (fun _=>0) 0 0 (fun _=>undef))).size<258:=by rw[cv_size];omega
 have hze:(cv 258 (cr (fun _=>0) 0 0 (fun _=>undef))).size=258:=cv_size _ _
 have hb0:Blk ((w.alloc (.cells (cv 258 (cr (fun _=>0) 0 0 (fun _=>undef))) 236)).alloc (.cells (cv 258 (cr (fun _=>0) 0 0 (fun _=>undef))) 236)) w.heap.size 236 258 (cr (fun _=>0) 0 0 (fun _=>undef)):=(Grow.alloc _ _).block (heap_alloc_new _ _)
 have hb1:Blk ((w.alloc (.cells (cv 258 (cr (fun _=>0) 0 0 (fun _=>undef))) 236)).alloc (.cells (cv 258 (cr (fun _=>0) 0 0 (fun _=>undef))) 236)) (w.heap.size+1) 236 258 (cr (fun _=>0) 0 0 (fun _=>undef)):=by
  have:=heap_alloc_new (w.alloc (.cells (cv 258 (cr (fun _=>0) 0 0 (fun _=>undef))) 236)) (.cells (cv 258 (cr (fun _=>0) 0 0 (fun _=>undef))) 236)
  unfold Blk;simpa using this
 obtain ⟨W1,hst,hb2,hc⟩:=store_blk (D:=cr (fun _=>0) 0 4294967295 (fun _=>undef)) hb1 (cr_one _ _ _ _)
 rw[←hset] at hst
 rw[Array.toList_setIfInBounds] at hst
 have hG:Hid (Grow w W1∧Blk W1 w.heap.size 236 258 (cr (fun _=>0) 0 0 (fun _=>undef))∧Blk W1 (w.heap.size+1) 236 258 (cr (fun k=>if k<0 then 2048 else 0) 0 4294967295 (fun _=>undef))):=by
  refine Lib.hid ⟨?_,hc.blk hb0 (by omega) (by simp),hb2⟩
  have g1:Below w.heap.size w (w.alloc (.cells (cv 258 (cr (fun _=>0) 0 0 (fun _=>undef))) 236)):=Grow.alloc _ _
  have g2:=bgrow g1 (by simp) (Grow.alloc _ (.cells (cv 258 (cr (fun _=>0) 0 0 (fun _=>undef))) 236))
  exact g2.trans (hc.below (by omega) (by simp) g2.size)
 clear hb0 hb1 hb2 hc
 generalize hZ:cv 258 (cr (fun _=>0) 0 0 (fun _=>undef))=Z at *
 clear hZ
 replace hset:=Lib.hid hset
 go_enter Tryz.func189,Tryz.ntmps189
 go_upto_block 1 with fail
 clear hst hz hzs hze hset
 obtain ⟨g0,hg0⟩:∃g0,g0=w.heap.size:=⟨_,rfl⟩
 go_loopg [2] 256 (fun k s2 wr=>∃i,i+k=256∧s2=.int .i64 (i:Int)∧Hid (Grow w wr∧Blk wr w.heap.size 236 258 (cr (fun _=>0) 0 0 (fun _=>undef))∧Blk wr (w.heap.size+1) 236 258 (cr (fun k=>if k<i then 2048 else 0) 0 4294967295 (fun _=>undef))))
 case atStart=>exact ⟨0,rfl,rfl,hG⟩
 case round=>
  obtain ⟨i,hik,rfl,HR⟩:=hrel
  clear hG
  cases gk with
  |zero=>
   obtain rfl:i=256:=by omega
   obtain ⟨r1,r2,r3⟩:=HR.out
   have hC:∀j,j<258→cr (fun k=>if k<256 then 2048 else 0) 0 4294967295 (fun _=>undef) j=cr M.start.p M.start.lo M.start.hi (fun _=>undef) j:=by
    intro j hj
    unfold cr
    by_cases h1:j<256
    ·simp[h1,M.start]
    ·rw[if_neg h1,if_neg h1];rfl
   replace r3:=r3.congr hC
   have hld:=load_blk r3 258 (Nat.le_refl _)
   obtain ⟨W2,hst,s1,s2⟩:=store_blk (D:=cr M.start.p M.start.lo M.start.hi (fun _=>undef)) r2 (cr_one _ _ _ _)
   have hld2:=load_blk s1 258 (Nat.le_refl _)
   have hG2:Hid (Grow w W2):=Lib.hid (Below.trans (B:=w.heap.size) r1 (s2.below (by omega) (by simp) (Below.size r1)))
   clear r1 r2 r3 s1 s2 HR hC
   have hSs:(cv 258 (cr M.start.p M.start.lo M.start.hi (fun _=>undef))).size=258:=cv_size _ _
   generalize hSe:cv 258 (cr M.start.p M.start.lo M.start.hi (fun _=>undef))=S at *
   replace hSe:=Lib.hid hSe
   go_wp2
   unfold Oper.wp
   rw[run_ld56 ⟨w.heap.size+1,0,none⟩ S rfl rfl hld,Oper.upon_value]
   go_wp2
   exact bodyPost_ret (results_cell56 rfl _ ⟨w.heap.size,0,none⟩ S _ rfl hld2) rfl ⟨by rw[hSe.out],hG2.out⟩
  |succ k=>
   have hlt:(i:Int)<256:=by omega
   obtain ⟨r1,r2,r3⟩:=HR.out
   have c0:wr.cell? ⟨w.heap.size+1,i,none⟩=some (.int .i64 (if i<i then 2048 else 0)):=by rw[r3.cell i (by omega),cr_p i (by omega)]
   rw[if_neg (by omega)] at c0
   have f0:=r3.free i
   have hN:Hid (Grow w (wr.setCell ⟨w.heap.size+1,i,none⟩ (.int .i64 2048))∧Blk (wr.setCell ⟨w.heap.size+1,i,none⟩ (.int .i64 2048)) w.heap.size 236 258 (cr (fun _=>0) 0 0 (fun _=>undef))∧Blk (wr.setCell ⟨w.heap.size+1,i,none⟩ (.int .i64 2048)) (w.heap.size+1) 236 258 (cr (fun k=>if k<i+1 then 2048 else 0) 0 4294967295 (fun _=>undef))):=by
    refine Lib.hid ⟨?_,r2.other _ _ (by show w.heap.size≠w.heap.size+1;omega),?_⟩
    ·exact Below.setCell (B:=w.heap.size) r1 (p:=⟨w.heap.size+1,i,none⟩) (by show w.heap.size≤w.heap.size+1;omega) _
    ·have:=r3.set i (.int .i64 2048)
     rw[cr_put_p i (by omega)] at this
     refine this.congr fun j hj=>?_
     congr 1
     funext t
     unfold M.put
     dsimp only
     by_cases h1:t=i
     ·subst h1;simp
     ·rw[if_neg h1]
      by_cases h2:t<i
      ·rw[if_pos h2,if_pos (by omega)]
      ·rw[if_neg h2,if_neg (by omega)]
   clear r1 r2 r3 HR
   go_wp2
   go_roundg k
   case measure=>omega
   case rel=>exact ⟨i+1,by omega,by rw[Int.natCast_add];rfl,hN⟩
end
section
theorem Tryz.zero239 (w:World):(zeroValue 239).run Tryz.prog w=.ok (.agg (cv 259 (cr (fun _=>0) 0 0 (fun _=>.slice none 0 0)))) w:=by kernel_rfl
theorem fold_size:∀(l:List (Value×Nat)) (Z:Array Value),(l.foldl (fun cs x=>cs.setIfInBounds x.2 x.1) Z).size=Z.size
 |[],Z=>rfl
 |x::l,Z=>by rw[List.foldl_cons,fold_size l];simp
theorem fold_set:∀(l:List Value) (k:Nat) (Z:Array Value) (j:Nat),j<Z.size→((l.zipIdx k).foldl (fun cs x=>cs.setIfInBounds x.2 x.1) Z)[j]? = if k≤j∧j<k+l.length then l[j-k]? else Z[j]?
 |[],k,Z,j,hj=>by
  rw[if_neg (by simp)];rfl
 |v::l,k,Z,j,hj=>by
  rw[List.zipIdx_cons,List.foldl_cons,fold_set l (k+1) _ j (by simpa using hj)]
  by_cases h1:k+1≤j∧j<k+1+l.length
  ·rw[if_pos h1,if_pos (by simp only[List.length_cons];omega),show j-k=(j-(k+1))+1 by omega,List.getElem?_cons_succ]
  ·rw[if_neg h1]
   dsimp only
   rw[Array.getElem?_setIfInBounds]
   by_cases h2:k=j
   ·subst h2
    rw[if_pos rfl,if_pos hj,if_pos (by simp only[List.length_cons];omega),Nat.sub_self];rfl
   ·rw[if_neg h2,if_neg (by simp only[List.length_cons];omega)]
theorem fold_cv (n m:Nat) (hm:m≤n) (C D:Nat→Value):Array.foldl (fun cs x=>cs.setIfInBounds x.snd x.fst) (cv n D) (cv m C).zipIdx 0 m=cv n (fun i=>if i<m then C i else D i):=by
 have hs:(cv m C).zipIdx.size=m:=by simp[cv_size]
 have e:Array.foldl (fun cs x=>cs.setIfInBounds x.snd x.fst) (cv n D) (cv m C).zipIdx 0 m=Array.foldl (fun cs x=>cs.setIfInBounds x.snd x.fst) (cv n D) (cv m C).zipIdx:=by rw[hs]
 rw[e,←Array.foldl_toList,Array.toList_zipIdx]
 apply Array.ext_getElem?
 intro j
 by_cases hj:j<n
 ·rw[fold_set _ _ _ _ (by rw[cv_size];exact hj),cv_at n _ j hj,cv_at n _ j hj]
  have hl:(cv m C).toList.length=m:=by simp[cv_size]
  rw[hl]
  by_cases h:j<m
  ·rw[if_pos (by omega),if_pos h,Nat.sub_zero,Array.getElem?_toList,cv_at m C j h]
  ·rw[if_neg (by omega),if_neg h]
 ·rw[Array.getElem?_eq_none (by rw[fold_size,cv_size];omega),cv_none _ _ _ (by omega)]
set_option maxRecDepth 100000 in
set_option maxHeartbeats 1000000 in
theorem rnewWriter (w:World):Calls Tryz.prog 163 #[] w fun e w'=>∃g,w.heap.size≤g∧e=.returned (.pointer (some ⟨g,0,none⟩))∧Blk w' g 239 259 (cr M.start.p M.start.lo M.start.hi (fun _=>.slice none 0 0))∧Grow w w':=by
 have HB:=Lib.hid (begin_any w)
 have hz:=Tryz.zero239
 have hs1:¬(cv 259 (cr (fun _=>0) 0 0 (fun _=>.slice none 0 0))).size<258:=by rw[cv_size];omega
 have hs2:(cv 258 (cr M.start.p M.start.lo M.start.hi (fun _=>undef))).size=258:=cv_size _ _
 have hf:=Lib.hid (fold_cv 259 258 (by omega) (cr M.start.p M.start.lo M.start.hi (fun _=>undef)) (cr (fun _=>0) 0 0 (fun _=>.slice none 0 0)))
 generalize hA:cv 258 (cr M.start.p M.start.lo M.start.hi (fun _=>undef))=A at *
 generalize hZ:cv 259 (cr (fun _=>0) 0 0 (fun _=>.slice none 0 0))=Z at *
 clear hA hZ
 go_enter Tryz.func163,Tryz.ntmps163
 go_wp2_with fail
 refine HB.out.mono ?_
 rintro e x ⟨rfl,hg⟩
 go_wp2
 go_ret
 refine ⟨x.heap.size,Below.size hg,rfl,?_,hg.trans (Grow.alloc _ _)⟩
 rw[hf.out]
 refine Blk.congr (heap_alloc_new _ _) fun i hi=>?_
 by_cases h:i<258
 ·rw[if_pos h]
  unfold cr
  by_cases h1:i<256
  ·rw[if_pos h1,if_pos h1]
  ·by_cases h2:i=256
   ·rw[if_neg h1,if_pos h2,if_neg h1,if_pos h2]
   ·rw[if_neg h1,if_neg h2,if_pos (by omega),if_neg h1,if_neg h2,if_pos (by omega)]
 ·rw[if_neg h,cr_x i (by omega),cr_x i (by omega)]
end
section
theorem wp_appS {ops:Array Oper} {rest:List Oper} {o:Oper} {a:Act} {Q:Exit→Act→World→Prop} (w:World) (hgd:o.guard=none) (s x:Operand)
  (ho:o.op=.call {callee:=.builtin .append,args:=#[s,x],argTypes:=#[57,57]}) (hty:o.type=57)
  (base:Nat) (v:Value) (n:Nat) (xs:List Value) (hs:a.eval s=v) (hown:w.ownsRow base 5 1 v n xs)
  (ad:Addr) (m c:Nat) (news:List Value) (hx:a.eval x=.slice (some ad) m c) (hl:news.length=m) (hnews:∀j u,news[j]? = some u→w.cell? (ad.add j)=some u) (h1:∀u∈news,u.oneCell'=true)
  (h63:n+m≤1000000000) (hbase:base≤w.heap.size)
  (h:∀v' w',w'.ownsRow base 5 1 v' (n+m) (xs++news)→w.grownBy w' v.ownBlock→Nxt v.ownBlock v'.ownBlock w→v'≠.slice none 0 0∨n+m=0→wpList Tryz.prog ops Q rest (a.put o.dst v') w'):wpList Tryz.prog ops Q (o::rest) a w:=by
 obtain ⟨i0,hi,hz0,hz1,hz2⟩:=info_parts infoU8
 obtain ⟨v',w',hr,h2,h3,h4,h5⟩:=run_append_own_at (P:=Tryz.prog) w base 57 57 5 i0 (.int .u8 0) 1 1 Tryz.underlying57 hi hz0 hz1 hz2 rfl (by decide) v n xs hown ad m c news (by omega) hnews h1 (by unfold maxLen;omega) (by omega) hbase
 refine wpList_plain hgd fun K hK=>?_
 unfold Oper.wp
 rw[run_app (x':=w') (v:=v') v (.slice (some ad) m c) ho hs hx (by rw[hty];exact hr)]
 refine hK _ _ (h v' w' h2 h3 ?_ ?_)
 ·rcases h5 with h5|h5
  ·exact .inl h5
  ·exact .inr ⟨_,h5,Nat.le_refl _⟩
 ·by_cases e:v'=.slice none 0 0
  ·right
   rw[e] at h2
   rcases h2.2 with ⟨_,h0⟩|⟨k,cap,cur,hv,_⟩
   ·exact h0
   ·cases hv
  ·exact .inl e
theorem wp_appR {ops:Array Oper} {rest:List Oper} {o:Oper} {a:Act} {Q:Exit→Act→World→Prop} (w:World) (hgd:o.guard=none) (s x:Operand)
  (ho:o.op=.call {callee:=.builtin .append,args:=#[s,x],argTypes:=#[57,57]}) (hty:o.type=57)
  (base:Nat) (v:Value) (n:Nat) (xs:List Value) (hs:a.eval s=v) (hown:w.ownsRow base 5 1 v n xs)
  (B2:Nat) (t:Value) (m:Nat) (news:List Value) (hx:a.eval x=t) (ho2:w.ownsRow B2 5 1 t m news) (h1:∀u∈news,u.oneCell'=true)
  (h63:n+m≤1000000000) (hbase:base≤w.heap.size)
  (h:∀v' w',w'.ownsRow base 5 1 v' (n+m) (xs++news)→w.grownBy w' v.ownBlock→Nxt v.ownBlock v'.ownBlock w→wpList Tryz.prog ops Q rest (a.put o.dst v') w'):wpList Tryz.prog ops Q (o::rest) a w:=by
 rcases ho2.2 with ⟨rfl,rfl⟩|⟨k,cap,cur,rfl,_⟩
 ·have hn:news=[]:=List.length_eq_zero_iff.1 (by simpa using ho2.1)
  subst hn
  obtain ⟨i0,hi,hz0,hz1,hz2⟩:=info_parts infoU8
  refine wpList_plain hgd fun K hK=>?_
  unfold Oper.wp
  rw[run_app (x':=w) (v:=v) v (.slice none 0 0) ho hs hx (by rw[hty];exact run_append_owned_none (P:=Tryz.prog) (w:=w) base 57 57 5 i0 1 Tryz.underlying57 hi v n xs hown)]
  exact hK _ _ (h v w (by simpa using hown) ⟨rfl,rfl,rfl,Nat.le_refl _,fun _ _ _=>rfl⟩ (.inl rfl))
 ·refine wp_appS w hgd s x ho hty base v n xs hs hown ⟨k,0,none⟩ m cap news hx (by simpa using ho2.1) (ho2.cells (g:=k) rfl) h1 h63 hbase fun v' w' r1 r2 r3 _=>h v' w' r1 r2 r3
structure RW (B g:Nat) (ro:Option Nat) (s:M.St) (l:List UInt8) (w:World):Prop where
 ok:M.Ok s
 bd:B≤w.heap.size
 ge:B≤g
 ex:∃X,Blk w g 239 259 (cr s.p s.lo s.hi X)∧w.ownsRow B 5 1 (X 258) l.length (bvals l)∧(X 258).ownBlock=ro
theorem RW.ro_ge {B g ro s l w} (h:RW B g ro s l w) (k:Nat) (e:ro=some k):B≤k∧k<w.heap.size:=by
 obtain ⟨X,h1,h2,h3⟩:=h.ex
 have h4:=h2.lt k (by rw[h3,e])
 exact ⟨h4.1,h4.2⟩
theorem RW.below {B g ro s l w w'} (h:RW B g ro s l w) (k:Chg g ro w w'):Below B w w':=k.below h.ge (fun j e=>(h.ro_ge j e).1) h.bd
theorem rnewWriter_rw (w:World):Calls Tryz.prog 163 #[] w fun e w'=>∃g,e=.returned (.pointer (some ⟨g,0,none⟩))∧RW w.heap.size g none M.start [] w'∧Grow w w':=by
 refine (rnewWriter w).mono ?_
 rintro e w' ⟨g,hg,rfl,h1,h2⟩
 refine ⟨g,rfl,⟨M.start_ok,Below.size h2,hg,_,h1,⟨rfl,.inl ⟨rfl,rfl⟩⟩,rfl⟩,h2⟩
theorem Chg.trans' {g ro x y z} (h:Chg g none x y) (k:Chg g ro y z) (v:Value):Chg g ro x (z.setCell ⟨g,258,none⟩ v):=by
 have h2:Chg g ro x z:=⟨k.os.trans h.os,k.tape.trans h.tape,k.output.trans h.output,Nat.le_trans h.size k.size,fun j hj hg hr=>(k.block j (Nat.lt_of_lt_of_le hj h.size) hg hr).trans (h.block j hj hg (by simp))⟩
 exact h2.set 258 v
set_option maxRecDepth 100000 in
set_option maxHeartbeats 1000000 in
theorem rbit_rw {B g ro s l w} (h:RW B g ro s l w) (c bit:Int) (hl:l.length+4≤100000000) :
  Calls Tryz.prog 164 #[.pointer (some ⟨g,0,none⟩),.int .i64 c,.int .i64 bit] w fun e w'=>e=.returned (.tuple #[])∧∃ro',RW B g ro' (M.nxt s (cx c) (bit % 2)) (l++M.outB s (cx c) (bit % 2)) w'∧Nxt ro ro' w∧Chg g ro w w':=by
 obtain ⟨X,x1,x2,x3⟩:=h.ex
 have HN:=Lib.hid (rnarrow 239 259 (by decide) (by omega) g s h.ok c bit X w x1)
 have hlen:=M.outB_len s (cx c) (bit % 2)
 have hok:=Lib.hid (M.nxt_ok h.ok (cx c) (bit % 2))
 generalize M.outB s (cx c) (bit % 2)=ob at *
 generalize M.nxt s (cx c) (bit % 2)=sn at *
 have hx:=x1.lt
 have n1:=row_ne x2 x1 (by decide)
 have hB:=h.bd
 have hge:=Lib.hid h.ge
 replace x1:=Lib.hid x1
 replace x2:=Lib.hid x2
 clear h
 go_enter Tryz.func164,Tryz.ntmps164
 go_wp2_with fail
 refine HN.out.mono ?_
 rintro e x ⟨v,rfl,b1,o1,c1,nn⟩
 have o2:x.ownsRow B 5 1 (X 258) l.length (bvals l):=x2.out.kept (row:=some g) ⟨c1.os,c1.tape,c1.output,c1.size,fun j hj hr=>c1.block j hj (fun e=>hr (by rw[e])) (by simp)⟩ (.inr n1.symm)
 have d8:x.cell? ⟨g,258,none⟩=some (X 258):=by rw[b1.cell 258 (by omega),cr_x 258 (by omega)]
 obtain ⟨so,sc,hv⟩:=own_mem o2
 obtain ⟨k,cap,cur,hvk⟩:∃k cap,∃_:Nat,v=.slice (some ⟨k,0,none⟩) ob.length cap:=by
  rcases o1.2 with ⟨e1,_⟩|⟨k,cap,cur,e1,_⟩
  ·exact absurd e1 nn
  ·exact ⟨k,cap,0,e1⟩
 subst hvk
 have hcells:=o1.cells (g:=k) rfl
 have hsz:=c1.size
 rw[hv] at d8
 have hlb:(bvals ob).length=ob.length:=bvals_length ob
 have hone:∀u∈bvals ob,u.oneCell'=true:=by
  intro u hu
  unfold bvals at hu
  obtain ⟨b,_,rfl⟩:=List.mem_map.1 hu
  rfl
 replace b1:=Lib.hid b1
 replace c1:=Lib.hid c1
 rw[hv] at o2
 have hv':=Lib.hid hv
 clear HN o1 nn hv
 go_wp2_with (at_builtin;refine wp_appS _ rfl _ _ rfl rfl B _ _ _ rfl o2 ⟨k,0,none⟩ _ _ (bvals ob) rfl hlb hcells hone (by omega) (by omega) ?_)
 intro v' W hown hgr hn _
 have hrow:(Value.slice so l.length sc).ownBlock=ro:=by rw[←hv'.out];exact x3
 rw[hrow] at hgr hn
 have n2:some g≠ro:=by rw[←x3];exact n1
 have hW:Blk W g 239 259 (cr sn.p sn.lo sn.hi X):=by
  have:=hgr.block g b1.out.lt n2
  have h5:=b1.out
  unfold Blk at h5⊢;rw[this];exact h5
 have e8:W.cell? ⟨g,258,none⟩=some (.slice so l.length sc):=by rw[hW.cell 258 (by omega),cr_x 258 (by omega),hv'.out]
 have f8:=hW.free 258
 obtain ⟨so',sc',hv2⟩:=own_mem hown
 have HF:Hid (RW B g v'.ownBlock sn (l++ob) (W.setCell ⟨g,258,none⟩ v')∧Nxt ro v'.ownBlock w∧Chg g ro w (W.setCell ⟨g,258,none⟩ v')):=by
  have hset:=hW.set 258 v'
  rw[cr_put_x 258 (by omega)] at hset
  refine Lib.hid ⟨⟨hok.out,?_,hge.out,_,hset,?_,by simp[vput]⟩,?_,?_⟩
  ·have:=hgr.size
   simp[World.setCell];omega
  ·have e2:vput X 258 v' 258=v':=by simp[vput]
   rw[e2,List.length_append,bvals_append]
   exact own_set' hown (by decide) hW 258 v'
  ·exact Nxt.trans (.inl rfl) hsz hn
  ·exact c1.out.trans' ⟨hgr.os,hgr.tape,hgr.output,hgr.size,fun j hj hg hr=>hgr.block j hj hr⟩ v'
 subst hv2
 clear hown hgr hn hW hcells hone hlb o2
 go_wp2
 refine bodyPost_end (results_none rfl _ _ _) rfl ⟨rfl,_,HF.out⟩
end
section
theorem bvals_one (l:List UInt8):∀u∈bvals l,u.oneCell'=true:=by
 intro u hu
 unfold bvals at hu
 obtain ⟨b,_,rfl⟩:=List.mem_map.1 hu
 rfl
set_option maxRecDepth 100000 in
set_option maxHeartbeats 1000000 in
theorem rbytes_rw {B g ro s l w} (h:RW B g ro s l w) (hl:l.length≤100000000) :
  Calls Tryz.prog 165 #[.pointer (some ⟨g,0,none⟩)] w fun e w'=>e=.returned (.string ⟨(l++M.be4 s.lo).toArray⟩)∧Grow w w':=by
 obtain ⟨X,x1,x2,x3⟩:=h.ex
 have h0:=h.ok.lo
 have h1:s.lo≤4294967295:=by have:=h.ok.le;have:=h.ok.hi;omega
 have c6:w.cell? ⟨g,256,none⟩=some (.int .u32 s.lo):=by rw[x1.cell 256 (by omega),cr_lo]
 obtain ⟨so,sc,hv⟩:=own_mem x2
 have c8:w.cell? ⟨g,258,none⟩=some (.slice so l.length sc):=by rw[x1.cell 258 (by omega),cr_x 258 (by omega),hv]
 have hgw:=x1.lt
 rw[hv] at x2
 have x4:=own_grow x2 (Grow.alloc w (.cells #[] 5))
 have o0:(w.alloc (.cells #[] 5)).ownsRow w.heap.size 5 1 (.slice (some ⟨w.heap.size,0,none⟩) 0 0) 0 []:=by
  have:=World.ownsRow_lit (e:=5) (size:=1) (base:=w.heap.size) w #[] 0 (Nat.le_refl _) (by unfold maxLen;omega) rfl
  simpa using this
 replace x4:=Lib.hid x4
 have hbv:=bvals_length l
 clear x1 x2 h
 generalize s.lo=lo at *
 go_enter Tryz.func165,Tryz.ntmps165
 go_wp2_with (at_builtin;refine wp_appR _ rfl _ _ rfl rfl w.heap.size _ 0 [] rfl o0 B _ l.length (bvals l) rfl x4.out (bvals_one l) (by omega) (by simp) ?_)
 intro v1 W1 ho hgr _
 have hG1:Below w.heap.size w W1:=((Below.refl w.heap.size w).alloc (Nat.le_refl _) _).grown hgr (by simp) (fun k hk=>by have:=(o0.lt k hk).1;exact this)
 have hsz:=hG1.size
 have hln:l.length+4≤1000000000:=by omega
 replace hG1:=Lib.hid hG1
 have ho2:=ho.alloc
 replace ho:=Lib.hid ho
 clear o0 x4 hgr
 obtain ⟨so1,sc1,hv1⟩:=own_mem ho.out
 subst hv1
 go_wp2_with (at_builtin;refine wp_appR _ rfl _ _ rfl rfl w.heap.size _ l.length (bvals l) rfl (ho2 _) W1.heap.size _ 4 _ rfl (World.ownsRow_lit (e:=5) (size:=1) (base:=W1.heap.size) W1 _ 4 (Nat.le_refl _) (by unfold maxLen;omega) rfl) ?_ hln ?_ ?_)
 ·exact ⟨rfl,rfl,rfl,rfl⟩
 ·simp;omega
 ·intro v2 W2 ho3 hgr3 _
  have hG2:Below w.heap.size w W2:=(hG1.out.alloc hsz _).grown hgr3 (by simp;omega) (fun k hk=>(ho.out.lt k hk).1)
  replace hG2:=Lib.hid hG2
  have hbe:bvals l++[.int .u8 (lo / 16777216),.int .u8 (lo / 65536 % 256),.int .u8 (lo / 256 % 256),.int .u8 (lo % 256)]=bvals (l++M.be4 lo):=by
   rw[bvals_append]
   congr 1
   show _=[Value.int .u8 ((UInt8.ofNat (lo / 16777216).toNat).toNat:Int),.int .u8 ((UInt8.ofNat (lo / 65536).toNat).toNat:Int),.int .u8 ((UInt8.ofNat (lo / 256).toNat).toNat:Int),.int .u8 ((UInt8.ofNat lo.toNat).toNat:Int)]
   rw[M.ofNat_val,M.ofNat_val,M.ofNat_val,M.ofNat_val,show ((lo / 16777216).toNat:Int) % 256=lo / 16777216 by omega,show ((lo / 65536).toNat:Int) % 256=lo / 65536 % 256 by omega,show ((lo / 256).toNat:Int) % 256=lo / 256 % 256 by omega,show (lo.toNat:Int) % 256=lo % 256 by omega]
  rw[hbe] at ho3
  have hcv:=conv_own (P:=Tryz.prog) W2 57 9 5 Tryz.underlying57 Tryz.underlying5 Tryz.underlying9 w.heap.size _ _ _ ho3
  obtain ⟨so2,sc2,hv2⟩:=own_mem ho3
  subst hv2
  clear ho3 hgr3 ho2 ho hbe
  go_wp2
  go_ret
  exact ⟨rfl,hG2.out⟩
end
section
structure ER (W:World) (g:Nat) (s:M.St) (l:List UInt8) (w:World):Prop where
 rw:∃ro,RW W.heap.size g ro s l w
 below:Below W.heap.size W w
theorem ER.bit {W g s l w} (h:ER W g s l w) (c b:Int) (hl:l.length+4≤100000000) :
  Calls Tryz.prog 164 #[.pointer (some ⟨g,0,none⟩),.int .i64 c,.int .i64 b] w fun e w'=>e=.returned (.tuple #[])∧ER W g (M.nxt s (cx c) (b % 2)) (l++M.outB s (cx c) (b % 2)) w':=by
 obtain ⟨ro,k⟩:=h.rw
 refine (rbit_rw k c b hl).mono ?_
 rintro e w' ⟨rfl,ro',k1,k2,k3⟩
 exact ⟨rfl,⟨ro',k1⟩,h.below.trans (k.below k3)⟩
set_option maxRecDepth 100000 in
set_option maxHeartbeats 2000000 in
theorem rencode_any (f:ByteArray) (W:World) (hf:f.size≤2500000) :
  Calls Tryz.prog 133 #[.string f] W fun e w'=>e=.returned (.string ⟨(M.enc f.data.toList).toArray⟩)∧Grow W w':=by
 have HN:=Lib.hid (rnewWriter_rw W)
 go_enter Tryz.func133,Tryz.ntmps133
 go_wp2_with fail
 refine HN.out.mono ?_
 rintro e x ⟨g,rfl,hw,hg⟩
 have hE:Hid (ER W g (M.runS M.start (M.encBits (f.data.toList.take 0))) (M.runO M.start (M.encBits (f.data.toList.take 0))) x):=Lib.hid ⟨⟨_,hw⟩,hg⟩
 clear HN hw hg
 go_upto_block 1 with fail
 go_loopg [4] f.size (fun k s4 wr=>∃i,i+k=f.size∧s4=.int .i64 (i:Int)∧Hid (ER W g (M.runS M.start (M.encBits (f.data.toList.take i))) (M.runO M.start (M.encBits (f.data.toList.take i))) wr))
 case atStart=>exact ⟨0,by omega,rfl,hE⟩
 case round=>
  obtain ⟨i,hik,rfl,HR⟩:=hrel
  clear hE
  have hlen:=M.runO_len (M.encBits (f.data.toList.take i)) M.start
  rw[M.encBits_len] at hlen
  have htl:(f.data.toList.take i).length≤i:=by rw[List.length_take];omega
  cases gk with
  |zero=>
   obtain rfl:i=f.size:=by omega
   have htk:f.data.toList.take f.size=f.data.toList:=List.take_of_length_le (by simp[←ByteArray.size_data])
   obtain ⟨ro,k⟩:=HR.out.rw
   have HB:=Lib.hid (rbytes_rw k (by omega))
   have hbe:=Lib.hid HR.out.below
   rw[htk] at HB
   clear htk hlen htl HR k
   go_wp2_with fail
   refine HB.out.mono ?_
   rintro e y ⟨rfl,g2⟩
   go_wp2
   go_ret
   exact ⟨rfl,below_grow hbe.out hbe.out.size g2⟩
  |succ k=>
   have hlt:i<f.size:=by omega
   have hlt2:(i:Int)<f.size:=by omega
   have hts:=take_succ_enc f i hlt
   generalize hSo:M.runS M.start (M.encBits (f.data.toList.take i))=S at *
   generalize hLo:M.runO M.start (M.encBits (f.data.toList.take i))=L at *
   go_upto_block 2 with fail
   have hx:=f[i].toNat_lt
   have hb31:=cb31_bit f[i]
   have hcn:=ctx_next f[i].toNat
   have hcx:=fun k=>ctx_cx f[i].toNat k hx
   have hbt:=M.bitAt_bit f[i].toNat
   replace hts:=Lib.hid hts
   replace hb31:=Lib.hid hb31
   replace hcn:=Lib.hid hcn
   replace hcx:=Lib.hid hcx
   replace hbt:=Lib.hid hbt
   replace hLo:=Lib.hid hLo
   replace hSo:=Lib.hid hSo
   refine wp_block ?_
   go_loopg [5,6] 8 (fun k s5 s6 wi=>∃j,j+k=8∧s5=.int .i64 (((256+f[i].toNat) / 2 ^ (8-j):Nat):Int)∧s6=.int .i64 (7-(j:Int))∧Hid (ER W g (M.runS S (bts f[i] j)) (L++M.runO S (bts f[i] j)) wi))
   case atStart=>
    refine ⟨0,rfl,?_,rfl,by simpa [bts,M.runS,M.runO] using HR⟩
    rw[show (256+f[i].toNat) / 2 ^ (8-0)=1 by omega];rfl
   case round=>
    obtain ⟨j,hjk,rfl,rfl,HI⟩:=hrel
    clear HR
    cases gk with
    |zero=>
     obtain rfl:j=8:=by omega
     have hneg:¬7-((8:Nat):Int)≥0:=by omega
     go_wp2
     go_roundg k
     case measure=>omega
     case rel=>
      refine ⟨i+1,by omega,by rw[Int.natCast_add];rfl,?_⟩
      rw[hts.out,M.runS_append,M.runO_append,hSo.out,hLo.out]
      exact HI
    |succ kk=>
     have hpos:7-(j:Int)≥0:=by omega
     have hj8:(j:Int)≤7:=by omega
     obtain ⟨C,hC⟩:∃C:Nat,C=(256+f[i].toNat) / 2 ^ (8-j):=⟨_,rfl⟩
     have h1:=hcn.out j (by omega)
     have h2:=hcx.out j (by omega)
     have h3:=hbt.out j
     have hb:=hb31.out j (by omega)
     have hbo:=M.runO_len (bts f[i] j) S
     have hbl:(bts f[i] j).length=j:=by simp[bts]
     have hC1:C≤511:=by rw[hC];exact Nat.le_trans (Nat.div_le_self _ _) (by omega)
     rw[←hC] at h1 h2⊢
     have HB:=Lib.hid (HI.out.bit (C:Int) (M.bitAt f[i].toNat j).2 (by rw[List.length_append];omega))
     rw[h2,show (M.bitAt f[i].toNat j).2 % 2=(M.bitAt f[i].toNat j).2 by omega] at HB
     have hbe:bits .and .i64 ((f[i].toNat:Int) / 2 ^ (7-j)) 1=(M.bitAt f[i].toNat j).2:=by rw[and_1,hb]
     have hsu:=Lib.hid (bts_succ f[i] j)
     generalize hbt2:(M.bitAt f[i].toNat j).2=bt at *
     replace h1:=Lib.hid h1
     replace hC:=Lib.hid hC
     clear hb h2 hbo hbl
     go_wp2_with fail
     refine HB.out.mono ?_
     rintro e y ⟨rfl,hy⟩
     replace hy:=Lib.hid hy
     go_wp2
     go_roundg kk
     case measure=>omega
     case rel=>
      refine ⟨j+1,by omega,by rw[h1.out],by rw[Int.natCast_add];congr 1;omega,?_⟩
      rw[hsu.out,M.runS_append,M.runO_append,←List.append_assoc]
      have h5:=hy.out
      rw[←hbt2] at h5
      refine Lib.hid ?_
      simpa [M.runS,M.runO] using h5
end
end Go.Proofs.YtpdckpifhniioaaGreat.Cod
end
section
set_option linter.unusedVariables false
set_option linter.unusedSimpArgs false
namespace Go.Proofs.YtpdckpifhniioaaGreat
open Go.RowKit
namespace Ab
attribute [local irreducible] CallOKd
attribute [local irreducible] tl rws
def bR (t:Nat→UInt8) (k:Nat):Nat:=(bst t k).1
def cstS (s:ByteArray) (k:Nat):Int:=(Prd.M.cost (s.data.toList.take k):Nat)
def I162 (s:ByteArray) (k:Nat):St:=⟨[(4,iv .i64 (k:Nat)),(3,iv .i64 (cstS s k)),(0,.c (.l (.v (.string s))))],[],0,24,[],(0)⟩
theorem cst_bd (s:ByteArray) (k:Nat):0≤cstS s k∧cstS s k≤128*k:=by
 have:=Prd.M.cost_le (s.data.toList.take k)
 have h:=List.length_take_le k s.data.toList
 unfold cstS
 omega
theorem min_cb (b:UInt8):imin ((b.toNat:Nat):Int) (256-((b.toNat:Nat):Int))=(Prd.M.cb b:Nat):=by
 have:=b.toNat_lt
 unfold imin Prd.M.cb
 split<;>omega
theorem cst_next (s:ByteArray) {k:Nat} (hk:k<s.size):cstS s k+(Prd.M.cb (s.get! k):Nat)=cstS s (k+1):=by
 have hk':k<s.data.size:=hk
 unfold cstS
 have e:s.data.toList.take (k+1)=s.data.toList.take k++[s.get! k]:=by
  rw[List.take_succ_eq_append_getElem (by simpa using hk')]
  congr 2
  show s.data[k]=s.data[k]!
  rw[getElem!_pos s.data k hk']
 rw[e,Prd.M.cost_append,Prd.M.cost_cons]
 show _=(((_+(_+0):Nat)):Int)
 omega
def cz_R162 (s:ByteArray) (k:Nat):Cz:={
 ct:=(fun f=>match f with
 |_=>none)
 eq:=(fun t=>match t with
 |_=>none)
 raw:=[],sym:=[14,18],nf:=[(15,iv .i64 (((s.get! k).toNat:Nat):Int)),(19,iv .i64 (((s.get! k).toNat:Nat):Int)),(21,iv .i64 (Prd.M.cb (s.get! k):Nat))],ap:=true,off:=[],on:=[],lp:=fun _=>none,un:=0}
set_option maxRecDepth 100000 in
theorem R162 (s:ByteArray) (k:Nat)  (K:Exit→St→Prop) (h:HB (decide ((Nat.cast k:Int)<(Nat.cast s.size:Int))) (InR ((Nat.cast k:Int)) s.size∧Le (iv IntKind.i64 (IntKind.i64.wrap (Nat.cast ((s.get! ((Nat.cast k:Int)).toNat).toNat):Int))) (iv IntKind.i64 (Nat.cast ((s.get! k).toNat):Int))∧InR ((Nat.cast k:Int)) s.size∧Le (iv IntKind.i64 (IntKind.i64.wrap (Nat.cast ((s.get! ((Nat.cast k:Int)).toNat).toNat):Int))) (iv IntKind.i64 (Nat.cast ((s.get! k).toNat):Int))∧IntKind.i64.wrap (256-(Nat.cast ((s.get! k).toNat):Int))=256-(Nat.cast ((s.get! k).toNat):Int)∧Le (iv IntKind.i64 (imin ((Nat.cast ((s.get! k).toNat):Int)) (256-(Nat.cast ((s.get! k).toNat):Int)))) (iv IntKind.i64 (Nat.cast ((Prd.M.cb (s.get! k))):Int))∧IntKind.i64.wrap (cstS s k+(Nat.cast ((Prd.M.cb (s.get! k))):Int))=cstS s k+(Nat.cast ((Prd.M.cb (s.get! k))):Int)∧IntKind.i64.wrap ((Nat.cast k:Int)+1)=(Nat.cast k:Int)+1∧RoundTo Tryz.prog ((getLoop 3 (Tryz.f162.body.getD Code.skip)).getD Code.skip) 0 (wkK 0 K) (St.mk [(0,SV.c (Cp.l (Leaf.v (Value.string s)))),(3,iv IntKind.i64 (cstS s k+(Nat.cast ((Prd.M.cb (s.get! k))):Int))),(4,iv IntKind.i64 ((Nat.cast k:Int)+1))] [] 0 24 [] 0)) (wkK 0 K (Exit.exit 0) (St.mk [(0,SV.c (Cp.l (Leaf.v (Value.string s)))),(3,iv IntKind.i64 (cstS s k)),(4,iv IntKind.i64 (Nat.cast k:Int))] [] 0 24 [] 0))):WPL Tryz.prog ((getLoop 3 (Tryz.f162.body.getD .skip)).getD .skip) (I162 s k) (wkK 0 K):=
 wp_roundT [0,3,4] [] (cx:=cz_R162 s k) rfl (of_eq (by kernel_rfl) h)
set_option maxRecDepth 100000 in
set_option maxHeartbeats 4000000 in
theorem L162 (s:ByteArray) (hs:s.size≤1000000):∀(m k:Nat),s.size-k=m→k≤s.size→∀(K:Exit→St→Prop),K (.exit 0) (I162 s s.size)→WPL Tryz.prog ((getLoop 3 (Tryz.f162.body.getD .skip)).getD .skip) (I162 s k) (wkK 0 K)
 |0,k,hm,hk,K,hK=>by
  have e:k=s.size:=by omega
  subst e
  refine R162 s _ K (HB.mk (fun hne=>absurd (of_decide_eq_true hne) (by omega)) (fun he=>?_))
  exact wkK.to (I162 s _) (Nat.le_refl _) (by kernel_rfl) (wkE_cons (LeN.sl (by kernel_rfl) rfl) (wkE_cons (LeN.sl (by kernel_rfl) rfl) (wkE_cons (LeN.sl (by kernel_rfl) rfl) trivial))) trivial hK
 |m+1,k,hm,hk,K,hK=>by
  refine R162 s k K (HB.mk (fun hne=>?_) (fun he=>absurd (show ((k:Nat):Int)<(s.size:Nat) by omega) (of_decide_eq_false he)))
  have hlt:k<s.size:=by omega
  have hcb:=cst_bd s k
  have hb:=(s.get! k).toNat_lt
  have hc1:=Prd.M.cb_le (s.get! k)
  repeat' (first|exact trivial|with_reducible apply And.intro|(with_reducible apply HB.mk)|with_reducible intro _)
  all_goals first
   |(with_reducible assumption)
   |(with_reducible exact Le.refl _)
   |(with_reducible rfl)
   |(exact ⟨by omega,by omega⟩)
   |(omega)
   |((exact okw _ (by omega) (by omega)))
   |(with_reducible exact Le.int (min_cb _))
   |((refine Le.int ?_;simp only[tn];exact okw _ (by omega) (by omega)))
   |((with_reducible refine RoundTo.toN 0 (I162 s (k+1)) ?_ ?_ ?_ ?_ ?_);exact Nat.le_refl _;kernel_rfl;exact (wkE_cons (LeN.sl (by kernel_rfl) rfl) (wkE_cons (LeN.sl_int (y:=cstS s k+(Prd.M.cb (s.get! k):Nat)) (by kernel_rfl) (cst_next s hlt)) (wkE_cons (LeN.sl (by kernel_rfl) rfl) trivial)));exact trivial;exact (L162 s hs m (k+1) (by omega) (by omega) K hK))
   |(exact okw _ (by omega) (by omega))
   |(exact Le.of rfl)
   |(exact BkR.of rfl)
   |(unfold SlOK;omega)
   |(unfold SlOK;decide)
   |(unfold inByte;decide)
   |(simp only[*,Bool.and_self,Bool.not_false,Bool.not_true];done)
   |(simp_all [wants];done)
theorem enters162:Enters Tryz.prog 162:=fun args w=>by go_simp
def cz_C162 (s:ByteArray):Cz:={
 ct:=(fun f=>match f with
 |_=>none)
 eq:=(fun t=>match t with
 |_=>none)
 raw:=[],sym:=[],nf:=[],ap:=true,off:=[],on:=[],lp:=fun r=>match r with|3=>some (fun _ K=>K (.exit 0) (I162 s s.size))|_=>none,un:=0}
set_option maxRecDepth 100000 in
set_option maxHeartbeats 400000 in
theorem C162 (s:ByteArray) (hs:s.size≤1000000) (n:Nat):CallOK Tryz.prog 162 [.c (.l (.v (.string s)))] [] n (iv .i64 (cstS s s.size)) [] 0:=by
 refine CallOK.any ?_ (by kernel_rfl) (by kernel_rfl) n
 refine call_ok (cx:=cz_C162 s) (nm:=[]) rfl Tryz.func162 (body:=Tryz.f162.body.getD .skip) rfl enters162 (by kernel_rfl) ?_
 apply of_eq (q:=(LoopOK Tryz.prog ((getLoop 3 (Tryz.f162.body.getD .skip)).getD .skip) (St.mk [(4,iv IntKind.i64 0),(3,iv IntKind.i64 0),(2,iv IntKind.i64 0),(0,SV.c (Cp.l (Leaf.v (Value.string s))))] [] 0 24 [] 0) fun K=>K (Exit.exit 0) (I162 s s.size))∧Le (iv IntKind.i64 (cstS s s.size)) (iv IntKind.i64 (cstS s s.size))∧True) (by kernel_rfl)
 repeat' (first|exact trivial|with_reducible apply And.intro|(with_reducible apply HB.mk)|with_reducible intro _)
 all_goals first
  |(with_reducible assumption)
  |(with_reducible exact Le.refl _)
  |(with_reducible rfl)
  |(exact LoopOK.mk (I162 s 0) rfl (by kernel_rfl) (wkE_cons (LeN.sl (by kernel_rfl) rfl) (wkE_cons (LeN.sl (by kernel_rfl) rfl) (wkE_cons (LeN.sl (by kernel_rfl) rfl) trivial))) trivial (fun K hT=>L162 s hs _ 0 rfl (Nat.zero_le _) K hT))
  |(exact okw _ (by omega) (by omega))
  |(exact Le.of rfl)
  |(exact BkR.of rfl)
  |(unfold SlOK;omega)
  |(unfold SlOK;decide)
  |(unfold inByte;decide)
  |(simp only[*,Bool.and_self,Bool.not_false,Bool.not_true];done)
  |(simp_all [wants];done)
def I132 (t:Nat→UInt8) (k:Nat):St:=⟨[(4,iv .i64 (k:Nat)),(3,iv .i64 (bR t k:Nat)),(1,.c (.l (.p 0 0)))],[(0,some ⟨tl t,.t 38⟩)],1,22,[0],(0)⟩
theorem cstS_fw (t:Nat→UInt8) (k:Nat):cstS (fwR (k:Nat) t) (fwR (k:Nat) t).size=costI k t:=by
 unfold cstS costI fwR
 rw[Int.toNat_natCast,List.take_of_length_le]
 rw[Array.length_toList];exact Nat.le_refl _
theorem cost_small (t:Nat→UInt8) (k:Nat):Prd.M.cost (Prd.fw k t).data.toList<1073741824:=by
 have h:=Prd.M.cost_le (Prd.fw k t).data.toList
 have e:(Prd.fw k t).data.toList.length=256:=by rw[Array.length_toList];exact fw_len k t
 omega
theorem bst_2 (t:Nat→UInt8):∀k,0<k→(bst t k).2=Prd.M.cost (Prd.fw (bst t k).1 t).data.toList
 |0,h=>absurd h (Nat.lt_irrefl 0)
 |k+1,_=>by
  rw[bst]
  by_cases h:(Prd.M.cost (Prd.fw k t).data.toList:Nat)<(bst t k).2
  ·rw[decide_eq_true h];rfl
  ·rw[decide_eq_false h]
   rcases Nat.eq_zero_or_pos k with rfl|hk
   ·exact absurd (cost_small t 0) h
   ·exact bst_2 t k hk
theorem bif_same (b:Bool) (x:Nat):(bif b then x else x)=x:=by cases b<;>rfl
theorem bR_step (t:Nat→UInt8) (k:Nat):bR t (k+1)=bif decide (costI k t<costI (bR t k) t) then k else bR t k:=by
 unfold bR costI
 rw[bst]
 rcases Nat.eq_zero_or_pos k with rfl|hk
 ·have h:=cost_small t 0
  rw[show (bst t 0)=(0,1073741824) from rfl,decide_eq_true h];exact (bif_same _ 0).symm
 ·rw[bst_2 t k hk]
  by_cases h:Prd.M.cost (Prd.fw k t).data.toList<Prd.M.cost (Prd.fw (bst t k).1 t).data.toList
  ·rw[decide_eq_true h,decide_eq_true (by omega)];rfl
  ·rw[decide_eq_false h,decide_eq_false (by omega)];rfl
theorem bR_t {t:Nat→UInt8} {k:Nat} (h:decide (costI k t<costI (bR t k) t)=true):((k:Nat):Int)=(bR t (k+1):Nat):=by rw[bR_step,h];rfl
theorem bR_f {t:Nat→UInt8} {k:Nat} (h:decide (costI k t<costI (bR t k) t)=false):((bR t k:Nat):Int)=(bR t (k+1):Nat):=by rw[bR_step,h];rfl
theorem bR_lt (t:Nat→UInt8):∀k,bR t k<6∨6≤bR t k∧bR t k<k:=fun k=>by
 rcases Nat.eq_zero_or_pos k with rfl|hk
 ·exact .inl (show (0:Nat)<6 by decide)
 ·have:=bst_lt t k hk
  unfold bR
  omega
theorem bR_1 (t:Nat→UInt8):(0:Int)=(bR t 1:Nat):=bR_f (k:=0) (decide_eq_false (Int.lt_irrefl _))
theorem bR_6 (t:Nat→UInt8):((bR t 6:Nat):Int)=(bestT t:Nat):=rfl
theorem fwR_sz (k:Int) (t:Nat→UInt8):(fwR k t).size=256:=fw_len _ _
attribute [local irreducible] cstS costI fwR bR bst
def cz_R132 (t:Nat→UInt8) (k:Nat):Cz:={
 ct:=(fun f=>match f with
 |134=>some fun _ _S ar=>match ar with | [.c (.agg _),.c (.l (.v (.int _ p)))]=>some {v:=ag [.v (.string (fwR p t)),li 0],rd:=[],wr:=[],nw:=0}|_=>none
 |162=>some fun _ _S ar=>match ar with | [.c (.l (.v (.string s)))]=>some {v:=iv .i64 (cstS s s.size),rd:=[],wr:=[],nw:=0}|_=>none
 |_=>none)
 eq:=(fun t=>match t with
 |_=>none)
 raw:=[],sym:=[],nf:=[(9,.c (.agg (tl t))),(14,.c (.agg (tl t))),(13,iv .i64 (costI k t)),(18,iv .i64 (costI (bR t k) t))],ap:=true,off:=[],on:=[],lp:=fun _=>none,un:=0,wh:=[38]}
set_option maxRecDepth 100000 in
theorem R132 (t:Nat→UInt8) (k:Nat)  (K:Exit→St→Prop) (h:HB (decide ((Nat.cast k:Int)<6)) (Le (ag (List.take 256 (tl t))) (ag (tl t))∧CallOKd Tryz.prog 134 [] [ag (tl t),iv IntKind.i64 (Nat.cast k:Int)] [] 1 (ag [Leaf.v (Value.string (fwR ((Nat.cast k:Int)) t)),li 0]) [] 0∧CallOKd Tryz.prog 162 [] [SV.c (Cp.l (Leaf.v (Value.string (fwR ((Nat.cast k:Int)) t))))] [] 1 (iv IntKind.i64 (cstS (fwR ((Nat.cast k:Int)) t) (fwR ((Nat.cast k:Int)) t).size)) [] 0∧Le (iv IntKind.i64 (cstS (fwR ((Nat.cast k:Int)) t) (fwR ((Nat.cast k:Int)) t).size)) (iv IntKind.i64 (costI k t))∧Le (ag (List.take 256 (tl t))) (ag (tl t))∧CallOKd Tryz.prog 134 [] [ag (tl t),iv IntKind.i64 (Nat.cast ((bR t k)):Int)] [] 1 (ag [Leaf.v (Value.string (fwR ((Nat.cast ((bR t k)):Int)) t)),li 0]) [] 0∧CallOKd Tryz.prog 162 [] [SV.c (Cp.l (Leaf.v (Value.string (fwR ((Nat.cast ((bR t k)):Int)) t))))] [] 1 (iv IntKind.i64 (cstS (fwR ((Nat.cast ((bR t k)):Int)) t) (fwR ((Nat.cast ((bR t k)):Int)) t).size)) [] 0∧Le (iv IntKind.i64 (cstS (fwR ((Nat.cast ((bR t k)):Int)) t) (fwR ((Nat.cast ((bR t k)):Int)) t).size)) (iv IntKind.i64 (costI (bR t k) t))∧HB (decide (costI k t<costI (bR t k) t)) (IntKind.i64.wrap ((Nat.cast k:Int)+1)=(Nat.cast k:Int)+1∧RoundTo Tryz.prog ((getLoop 3 (Tryz.f132.body.getD Code.skip)).getD Code.skip) 1 (wkK 1 K) (St.mk [(1,SV.c (Cp.l (Leaf.p 0 0))),(3,iv IntKind.i64 (Nat.cast k:Int)),(4,iv IntKind.i64 ((Nat.cast k:Int)+1))] [(0,some (Blk.mk (tl t) (BT.t 38)))] 1 22 [0] 0)) (IntKind.i64.wrap ((Nat.cast k:Int)+1)=(Nat.cast k:Int)+1∧RoundTo Tryz.prog ((getLoop 3 (Tryz.f132.body.getD Code.skip)).getD Code.skip) 1 (wkK 1 K) (St.mk [(1,SV.c (Cp.l (Leaf.p 0 0))),(3,iv IntKind.i64 (Nat.cast ((bR t k)):Int)),(4,iv IntKind.i64 ((Nat.cast k:Int)+1))] [(0,some (Blk.mk (tl t) (BT.t 38)))] 1 22 [0] 0))) (wkK 1 K (Exit.exit 0) (St.mk [(1,SV.c (Cp.l (Leaf.p 0 0))),(3,iv IntKind.i64 (Nat.cast ((bR t k)):Int)),(4,iv IntKind.i64 (Nat.cast k:Int))] [(0,some (Blk.mk (tl t) (BT.t 38)))] 1 22 [0] 0))):WPL Tryz.prog ((getLoop 3 (Tryz.f132.body.getD .skip)).getD .skip) (I132 t k) (wkK 1 K):=
 wp_roundT [1,3,4] [0] (cx:=cz_R132 t k) rfl (of_eq (by kernel_rfl) h)
set_option maxRecDepth 100000 in
set_option maxHeartbeats 4000000 in
theorem L132 (t:Nat→UInt8)  : ∀(m k:Nat),6-k=m→k≤6→∀(K:Exit→St→Prop),K (.exit 0) (I132 t 6)→WPL Tryz.prog ((getLoop 3 (Tryz.f132.body.getD .skip)).getD .skip) (I132 t k) (wkK 1 K)
 |0,k,hm,hk,K,hK=>by
  have e:k=6:=by omega
  subst e
  refine R132 t _ K (HB.mk (fun hne=>absurd (of_decide_eq_true hne) (by omega)) (fun he=>?_))
  exact wkK.to (I132 t _) (Nat.le_refl _) (by kernel_rfl) (wkE_cons (LeN.sl (by kernel_rfl) rfl) (wkE_cons (LeN.sl (by kernel_rfl) rfl) (wkE_cons (LeN.sl (by kernel_rfl) rfl) trivial))) (wkH_cons (BkN.plain (cs:=tl t) (b:=.t 38) (by kernel_rfl) (rfl) (plain_tl t) (by kernel_rfl)) trivial) hK
 |m+1,k,hm,hk,K,hK=>by
  refine R132 t k K (HB.mk (fun hne=>?_) (fun he=>absurd (show ((k:Nat):Int)<(6:Nat) by omega) (of_decide_eq_false he)))
  have hlt:k<6:=by omega
  have hbr:=bR_lt t k
  repeat' (first|exact trivial|with_reducible apply And.intro|(with_reducible apply HB.mk)|with_reducible intro _)
  all_goals first
   |(with_reducible assumption)
   |(with_reducible exact Le.refl _)
   |(with_reducible rfl)
   |(((with_reducible refine C134 t _ ?_ ?_ _)<;>omega))
   |(((with_reducible refine C162 _ ?_ _);rw[fwR_sz];decide))
   |(with_reducible exact Le.of (congrArg (fun l=>SV.c (.agg l)) (tl_take _)))
   |(with_reducible exact Le.int (cstS_fw _ _))
   |((exact okw _ (by omega) (by omega)))
   |(omega)
   |(have hcnd:decide (costI k t<costI (bR t k) t)=true:=(by with_reducible assumption);(with_reducible refine RoundTo.toN 1 (I132 t (k+1)) ?_ ?_ ?_ ?_ ?_);exact Nat.le_refl _;kernel_rfl;exact (wkE_cons (LeN.sl (by kernel_rfl) rfl) (wkE_cons (LeN.sl_int (y:=((k:Nat):Int)) (by kernel_rfl) (bR_t hcnd)) (wkE_cons (LeN.sl (by kernel_rfl) rfl) trivial)));exact (wkH_cons (BkN.plain (cs:=tl t) (b:=.t 38) (by kernel_rfl) (rfl) (plain_tl t) (by kernel_rfl)) trivial);exact (L132 t  m (k+1) (by omega) (by omega) K hK))
   |(have hcnd:decide (costI k t<costI (bR t k) t)=false:=(by with_reducible assumption);(with_reducible refine RoundTo.toN 1 (I132 t (k+1)) ?_ ?_ ?_ ?_ ?_);exact Nat.le_refl _;kernel_rfl;exact (wkE_cons (LeN.sl (by kernel_rfl) rfl) (wkE_cons (LeN.sl_int (y:=((bR t k:Nat):Int)) (by kernel_rfl) (bR_f hcnd)) (wkE_cons (LeN.sl (by kernel_rfl) rfl) trivial)));exact (wkH_cons (BkN.plain (cs:=tl t) (b:=.t 38) (by kernel_rfl) (rfl) (plain_tl t) (by kernel_rfl)) trivial);exact (L132 t  m (k+1) (by omega) (by omega) K hK))
   |(exact okw _ (by omega) (by omega))
   |(exact Le.of rfl)
   |(exact BkR.of rfl)
   |(unfold SlOK;omega)
   |(unfold SlOK;decide)
   |(unfold inByte;decide)
   |(simp only[*,Bool.and_self,Bool.not_false,Bool.not_true];done)
   |(simp_all [wants];done)
theorem enters132:Enters Tryz.prog 132:=fun args w=>by go_simp
def cz_C132 (t:Nat→UInt8):Cz:={
 ct:=(fun f=>match f with
 |134=>some fun _ _S ar=>match ar with | [.c (.agg _),.c (.l (.v (.int _ p)))]=>some {v:=ag [.v (.string (fwR p t)),li 0],rd:=[],wr:=[],nw:=0}|_=>none
 |162=>some fun _ _S ar=>match ar with | [.c (.l (.v (.string s)))]=>some {v:=iv .i64 (cstS s s.size),rd:=[],wr:=[],nw:=0}|_=>none
 |_=>none)
 eq:=(fun t=>match t with
 |_=>none)
 raw:=[],sym:=[],nf:=[],ap:=true,off:=[],on:=[],lp:=fun r=>match r with|3=>some (fun _ K=>K (.exit 0) (I132 t 6))|_=>none,un:=0,wh:=[38]}
set_option maxRecDepth 100000 in
set_option maxHeartbeats 400000 in
theorem C132 (t:Nat→UInt8)  (n:Nat):CallOK Tryz.prog 132 [.c (.agg (tl t))] [] n (iv .i64 (bestT t:Nat)) [] 0:=by
 refine CallOK.any ?_ (by kernel_rfl) (by kernel_rfl) n
 refine call_ok (cx:=cz_C132 t) (nm:=[]) rfl Tryz.func132 (body:=Tryz.f132.body.getD .skip) rfl enters132 (by kernel_rfl) ?_
 apply of_eq (q:=(LoopOK Tryz.prog ((getLoop 3 (Tryz.f132.body.getD .skip)).getD .skip) (St.mk [(4,iv IntKind.i64 1),(3,iv IntKind.i64 0),(2,iv IntKind.i64 0),(1,SV.c (Cp.l (Leaf.p 0 0))),(0,ag (tl t))] [(0,some (Blk.mk (tl t) (BT.t 38)))] 1 22 [0] 0) fun K=>K (Exit.exit 0) (I132 t 6))∧Le (iv IntKind.i64 (Nat.cast ((bR t 6)):Int)) (iv IntKind.i64 (Nat.cast ((bestT t)):Int))∧True) (by kernel_rfl)
 repeat' (first|exact trivial|with_reducible apply And.intro|(with_reducible apply HB.mk)|with_reducible intro _)
 all_goals first
  |(with_reducible assumption)
  |(with_reducible exact Le.refl _)
  |(with_reducible rfl)
  |(exact LoopOK.mk (I132 t 1) rfl (by kernel_rfl) (wkE_cons (LeN.sl (by kernel_rfl) rfl) (wkE_cons (LeN.sl_int (y:=0) (by kernel_rfl) (bR_1 t)) (wkE_cons (LeN.sl (by kernel_rfl) rfl) trivial))) (wkH_cons (BkN.plain (cs:=tl t) (b:=.t 38) (by kernel_rfl) (rfl) (plain_tl t) (by kernel_rfl)) trivial) (fun K hT=>L132 t _ 1 rfl (by decide) K hT))
  |(exact Le.int (bR_6 t))
  |(exact okw _ (by omega) (by omega))
  |(exact Le.of rfl)
  |(exact BkR.of rfl)
  |(unfold SlOK;omega)
  |(unfold SlOK;decide)
  |(unfold inByte;decide)
  |(simp only[*,Bool.and_self,Bool.not_false,Bool.not_true];done)
  |(simp_all [wants];done)
end Ab
end Go.Proofs.YtpdckpifhniioaaGreat
end
