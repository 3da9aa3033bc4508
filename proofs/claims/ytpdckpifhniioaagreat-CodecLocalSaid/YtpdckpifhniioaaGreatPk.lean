/- Part 11 of what CodecLocal rests on. -/
import Derived.Deep.Cut
import Derived.Deep.RegionHeld3
import Derived.Deep.DrawnRows
import Derived.Lib.Builder
import Derived.Lib.UnsafeStr
import Derived.Lib.AppendStr
import Derived.Laws.Externs
import Derived.Deep.DeepCutAuto
import Derived.Test.YtpdckpifhniioaaGreatPa
import Derived.Test.YtpdckpifhniioaaGreatPd
import Derived.Test.YtpdckpifhniioaaGreatPg
import Derived.Test.YtpdckpifhniioaaGreatPj
section
set_option linter.unusedVariables false
set_option linter.unusedSimpArgs false
namespace Go.Proofs.YtpdckpifhniioaaGreat.Prd
open Go.RowKit
open Go.Proofs.YtpdckpifhniioaaGreat
section
def fw (k:Nat) (t:Nat→UInt8):ByteArray:=⟨(M.tab 256 (M.res k (plf t))).toArray⟩
theorem fw_size (k:Nat) (t:Nat→UInt8):(fw k t).size=256:=by unfold fw;rw[str_size,M.tab_length]
end
section
def St (f:Nat→UInt8):ByteArray:=⟨(M.tab 256 f).toArray⟩
theorem St_size (f:Nat→UInt8):(St f).size=256:=by unfold St;rw[str_size,M.tab_length]
theorem St_index (f:Nat→UInt8) (j:Nat) (z:Int) (hz:z=j) (h:j<256) (W:World):(Instr.index 9 (.string (St f)) (.int .i64 z)).run Tryz.prog W=.ok (.int .u8 (f j).toNat) W:=by
 subst hz
 have hi:j<(St f).size:=by rw[St_size];omega
 have hg:(St f)[j]? = some (f j):=by
  rw[getElem?_pos (St f) j hi]
  show some ((M.tab 256 f).toArray[j]'(by simp[M.tab_length,h]))=_
  rw[List.getElem_toArray,M.tab_get]
 simp[Instr.index,asIntOf,Sem.run_bind,run_underlying Tryz.underlying9,hg]
def til (p:Nat→UInt8) (j:Nat):UInt8:=
 if j % 4=0 then M.bkR (p (j / 4)) (p (64+j / 4)) (p (128+j / 4)) else if j % 4=1 then M.bkG (p (j / 4)) (p (128+j / 4)) else if j % 4=2 then M.bkB (p (j / 4)) (p (64+j / 4)) (p (128+j / 4)) else p (192+j / 4)
def tilN (p:Nat→UInt8) (n j:Nat):UInt8:=if j<n*4 then til p j else 0
theorem tilN_zero (p:Nat→UInt8):tilN p 0=fun _=>0:=by funext j;simp[tilN]
theorem tilN_full (p:Nat→UInt8) (j:Nat) (h:j<256):tilN p 64 j=til p j:=by unfold tilN;rw[if_pos (by omega)]
theorem tilN_put (p:Nat→UInt8) (n j:Nat):M.put (M.put (M.put (M.put (tilN p n) (n*4) (M.bkR (p n) (p (64+n)) (p (128+n)))) (n*4+1) (M.bkG (p n) (p (128+n)))) (n*4+2) (M.bkB (p n) (p (64+n)) (p (128+n)))) (n*4+3) (p (192+n)) j=tilN p (n+1) j:=by
 unfold M.put tilN
 by_cases h3:j=n*4+3
 ·subst h3;rw[if_pos rfl,if_pos (by omega)];unfold til;rw[if_neg (by omega),if_neg (by omega),if_neg (by omega),show (n*4+3) / 4=n by omega]
 rw[if_neg h3]
 by_cases h2:j=n*4+2
 ·subst h2;rw[if_pos rfl,if_pos (by omega)];unfold til;rw[if_neg (by omega),if_neg (by omega),if_pos (by omega),show (n*4+2) / 4=n by omega]
 rw[if_neg h2]
 by_cases h1:j=n*4+1
 ·subst h1;rw[if_pos rfl,if_pos (by omega)];unfold til;rw[if_neg (by omega),if_pos (by omega),show (n*4+1) / 4=n by omega]
 rw[if_neg h1]
 by_cases h0:j=n*4
 ·subst h0;rw[if_pos rfl,if_pos (by omega)];unfold til;rw[if_pos (by omega),show (n*4) / 4=n by omega]
 rw[if_neg h0]
 by_cases h:j<n*4
 ·rw[if_pos h,if_pos (by omega)]
 ·rw[if_neg h,if_neg (by omega)]
theorem til_plf (t:Nat→UInt8) (j:Nat) (h:j<256):til (plf t) j=t j:=by
 have e0:plf t (j / 4)=M.swY (t (4*(j / 4))) (t (4*(j / 4)+1)) (t (4*(j / 4)+2)):=by unfold plf;rw[if_pos (by omega)]
 have e1:plf t (64+j / 4)=M.swU (t (4*(j / 4))) (t (4*(j / 4)+2)):=by unfold plf;rw[if_neg (by omega),if_pos (by omega),show 64+j / 4-64=j / 4 by omega]
 have e2:plf t (128+j / 4)=M.swV (t (4*(j / 4))) (t (4*(j / 4)+1)) (t (4*(j / 4)+2)):=by unfold plf;rw[if_neg (by omega),if_neg (by omega),if_pos (by omega),show 128+j / 4-128=j / 4 by omega]
 have e3:plf t (192+j / 4)=t (4*(j / 4)+3):=by unfold plf;rw[if_neg (by omega),if_neg (by omega),if_neg (by omega),show 192+j / 4-192=j / 4 by omega]
 unfold til
 rw[e0,e1,e2,e3,M.bk_r,M.bk_g,M.bk_b]
 split
 ·congr 1;omega
 split
 ·congr 1;omega
 split
 ·congr 1;omega
 ·congr 1;omega
theorem til_congr (p q:Nat→UInt8) (h:∀i,i<256→p i=q i) (j:Nat) (hj:j<256):til p j=til q j:=by
 unfold til
 rw[h (j / 4) (by omega),h (64+j / 4) (by omega),h (128+j / 4) (by omega),h (192+j / 4) (by omega)]
theorem back_of (U t:Nat→UInt8) (h:∀i,i<256→U i=plf t i) (j:Nat) (hj:j<256):til U j=t j:=by
 rw[til_congr U (plf t) h j hj,til_plf t j hj]
theorem back_fwd (k:Nat) (t:Nat→UInt8) (j:Nat) (h:j<256):til (M.unp k (M.res k (plf t)) 256) j=t j:=
 back_of _ t (fun i hi=>M.unp_res k (plf t) 256 i hi) j h
theorem unp_put (k:Nat) (f:Nat→UInt8) (q i:Nat) (hi:i<64):M.put (M.unp k f (q*64+i)) (q*64+i) (f (q*64+i)+M.gs k (M.pl (M.unp k f (q*64+i)) q) i)=M.unp k f (q*64+(i+1)):=by
 show _=M.unp k f ((q*64+i)+1)
 show _=M.put _ _ _
 rw[show (q*64+i) / 64=q by omega,show (q*64+i) % 64=i by omega]
theorem sc_keep {x:World} {g b i j:Nat} {v u:Value} (hne:g≠b) (h:x.drew.cell? ⟨g,i,none⟩=some u):(x.setCell ⟨b,j,none⟩ v).drew.cell? ⟨g,i,none⟩=some u:=by
 show (x.setCell ⟨b,j,none⟩ v).cell? ⟨g,i,none⟩=some u
 rw[World.cell?_setCell_other _ _ _ _ (by intro e;injection e with e1 _ _;exact hne e1.symm)]
 exact h
theorem results_row_tmp {fn:Func} {p u:Tmp} {ty:TypeId} (h:fn.results = #[.cell p ty,.tmp u]) (tmps:Array Value) (w:World) (g:Nat) (cs:Array Value)
  (hp:tmps.getD p undef=.pointer (some ⟨g,0,none⟩)) (hl:(loadVar ty ⟨g,0,none⟩).run Tryz.prog w=.ok (.agg cs) w) :
  (results fn tmps).run Tryz.prog w=.ok (.tuple #[.agg cs,tmps.getD u undef]) w:=by
 have hp':tmps[p]?.getD undef=.pointer (some ⟨g,0,none⟩):=by simpa using hp
 simp[results,h,hp',asAddr,hl]
theorem e_add8 (a b:UInt8):((a.toNat:Int)+(b.toNat:Int)) % 256=((a+b).toNat:Int):=by
 have:=a.toNat_lt;have:=b.toNat_lt
 rw[UInt8.toNat_add];omega
set_option maxRecDepth 100000 in
set_option maxHeartbeats 1600000 in
theorem inverse_any (f:Nat→UInt8) (k:Nat) (hk:k<6) (w:World) :
  Calls Tryz.prog 173 #[.string (St f),.int .i64 k] w fun e w'=>
   e=.returned (.tuple #[.agg (cf 256 (til (M.unp k f 256))),.int .i64 0])∧Below w.heap.size w w':=by
 have hz:=Tryz.zero38
 have hz7:=Tryz.zero191
 have hs:=St_size f
 go_enter Tryz.func173,Tryz.ntmps173
 go_wp2_with fail
 refine (Predictors_any _).mono ?_
 rintro e w1 ⟨rfl,hb1⟩
 have hT:Bk w.heap.size 38 256 (fun _=>0) w1:=(Bk.new w 38 256 _).keep hb1
 have hb:=((Below.refl w.heap.size w).alloc (Nat.le_refl _) (.cells (cf 256 fun _=>0) 38)).trans (hb1.mono (by simp))
 clear hb1
 have hpc:(w1.alloc (.cells prC 196)).cell? ⟨w1.heap.size,k*2+1,none⟩=some (.func (.func (180+k)) #[] #[]):=by rw[World.cell?_alloc_mark];exact prC_at k hk
 go_wp2_with (go_at_call 150;refine (predictors_any _).mono ?_;rintro e w' ⟨rfl,rfl⟩)
 have hP:Bk (w1.heap.size+1) 191 256 (M.unp k f (0*64)) ((w1.alloc (.cells prC 196)).alloc (.cells (cf 256 fun _=>0) 191)):=heap_alloc2_new _ _ _
 have hT1:Bk w.heap.size 38 256 (fun _=>0) ((w1.alloc (.cells prC 196)).alloc (.cells (cf 256 fun _=>0) 191)):=(hT.alloc _).alloc _
 have hb1:Below w.heap.size w ((w1.alloc (.cells prC 196)).alloc (.cells (cf 256 fun _=>0) 191)):=(hb.alloc hb.size _).alloc (by have:=hb.size;simp;omega) _
 have n1:w.heap.size≠w1.heap.size+1:=by have:=hT.lt;omega
 have l1:w.heap.size≤w1.heap.size+1:=by have:=hb.size;omega
 clear hT hb hz hz7 hpc hs
 generalize (w1.alloc (.cells prC 196)).alloc (.cells (cf 256 fun _=>0) 191)=W0 at *
 generalize w1.heap.size+1=gp at *
 go_loopw [29] (fun a wo=>∃q:Nat,q≤4∧a=.int .i64 q∧Bk gp 191 256 (M.unp k f (q*64)) wo∧Bk w.heap.size 38 256 (fun _=>0) wo∧Below w.heap.size w wo) (fun a _=>4-(intOf a).toNat)
 case atStart=>exact ⟨0,by omega,rfl,hP,hT1,hb1⟩
 case round=>
  clear hP hT1 hb1
  obtain ⟨q,hq,rfl,hP1,hT1,hL1⟩:=hrel
  by_cases hq4:q<4
  ·have hq0:(0:Int)≤(q:Int):=by omega
   have hq1:(q:Int)<4:=by omega
   go_wp2_with fail
   go_loopw [32] (fun a wi=>∃i:Nat,i≤64∧a=.int .i64 i∧Bk gp 191 256 (M.unp k f (q*64+i)) wi∧Bk w.heap.size 38 256 (fun _=>0) wi∧Below w.heap.size w wi) (fun a _=>64-(intOf a).toNat)
   case atStart=>exact ⟨0,by omega,rfl,hP1,hT1,hL1⟩
   case round=>
    obtain ⟨i,hi,rfl,hP2,hT2,hL2⟩:=hrel
    clear hP1 hT1 hL1
    by_cases hi4:i<64
    ·have hc:=hP2.cell (q*64+i) (by omega)
     have hf:=hP2.free (q*64+i)
     have hcd:wr.drew.cell? ⟨gp,q*64+i,none⟩=some (.int .u8 (((M.unp k f (q*64+i)) (q*64+i)).toNat:Int)):=hc
     have hfd:wr.drew.frozen? ⟨gp,q*64+i,none⟩=false:=hf
     have hI:=fun W=>St_index f (q*64+i) ((q:Int)*64+(i:Int)) (by omega) (by omega) W
     have hi0:(0:Int)≤(i:Int):=by omega
     have hi1:(i:Int)<64:=by omega
     have hw1:IntKind.i64.wrap ((q:Int)*64)=(q:Int)*64:=IntWalk.i64_in _ (by omega)
     have hw2:IntKind.i64.wrap ((q:Int)*64+(i:Int))=(q:Int)*64+(i:Int):=IntWalk.i64_in _ (by omega)
     have HP:=Lib.hid hP2
     have HT:=Lib.hid hT2
     have HL:=Lib.hid hL2
     clear hP2 hT2 hL2 hc hf
     generalize hu:M.unp k f (q*64+i)=u at *
     have HU:=Lib.hid hu
     clear hu
     go_wp2_with fail
     go_region_with (go_at_call 151;refine (guess_bk k hk gp u q i hq4 hi4 _ (Bk.drew HP.out)).mono ?_;rintro e w2 ⟨rfl,hb2⟩;have hc2:=cell_keep hcd hb2;have hf2:=(hb2.frozen (p:=⟨gp,q*64+i,none⟩) (block_lt_of_cell hcd)).trans hfd)
     all_goals
      go_wp2_with fail
      clear hw1 hw2
      go_roundw
      case rel=>
       rw[e_add8]
       refine ⟨i+1,by omega,by go_num,?_,((Bk.drew HT.out).keep hb2).other _ _ n1,(bt (Below.drew HL.out) hb2).setCell (p:=⟨gp,q*64+i,none⟩) l1 _⟩
       rw[←unp_put k f q i hi4,HU.out]
       exact ((Bk.drew HP.out).keep hb2).set (q*64+i) _
      case measure=>simp[intOf];omega
    ·have hi64:i=64:=by omega
     subst hi64
     go_wp2_with fail
     go_roundw
     case rel=>exact ⟨q+1,by omega,by go_num,by rw[show (q+1)*64=q*64+64 by omega];exact hP2,hT2,hL2⟩
     case measure=>simp[intOf];omega
  ·have hq4':q=4:=by omega
   have eq256:q*64=256:=by omega
   have hP:Bk gp 191 256 (M.unp k f 256) wr:=by rw[eq256] at hP1;exact hP1
   clear hP1 eq256 hq4'
   generalize hu:M.unp k f 256=u at *
   have HU:=Lib.hid hu
   clear hu
   go_wp2_with fail
   go_loopw [53] (fun a wi=>∃n:Nat,n≤64∧a=.int .i64 n∧Bk gp 191 256 u wi∧Bk w.heap.size 38 256 (tilN u n) wi∧Below w.heap.size w wi) (fun a _=>64-(intOf a).toNat)
   case atStart=>exact ⟨0,by omega,rfl,hP,by rw[tilN_zero];exact hT1,hL1⟩
   case round=>
    clear hP hT1 hL1
    obtain ⟨n,hn,rfl,hP,hT,hL⟩:=hrel
    by_cases hlt:n<64
    ·have d0:wr.cell? ⟨gp,n,none⟩=some (.int .u8 ((u n).toNat:Int)):=hP.cell n (by omega)
     have d1:wr.cell? ⟨gp,64+n,none⟩=some (.int .u8 ((u (64+n)).toNat:Int)):=hP.cell (64+n) (by omega)
     have d2:wr.cell? ⟨gp,128+n,none⟩=some (.int .u8 ((u (128+n)).toNat:Int)):=hP.cell (128+n) (by omega)
     have d3:wr.cell? ⟨gp,192+n,none⟩=some (.int .u8 ((u (192+n)).toNat:Int)):=hP.cell (192+n) (by omega)
     have c0:wr.cell? ⟨w.heap.size,n*4,none⟩=some (.int .u8 ((tilN u n (n*4)).toNat:Int)):=hT.cell (n*4) (by omega)
     have c1:wr.cell? ⟨w.heap.size,n*4+1,none⟩=some (.int .u8 ((tilN u n (n*4+1)).toNat:Int)):=hT.cell (n*4+1) (by omega)
     have c2:wr.cell? ⟨w.heap.size,n*4+2,none⟩=some (.int .u8 ((tilN u n (n*4+2)).toNat:Int)):=hT.cell (n*4+2) (by omega)
     have c3:wr.cell? ⟨w.heap.size,n*4+3,none⟩=some (.int .u8 ((tilN u n (n*4+3)).toNat:Int)):=hT.cell (n*4+3) (by omega)
     have f0:wr.frozen? ⟨w.heap.size,n*4,none⟩=false:=hT.free (n*4)
     have f1:wr.frozen? ⟨w.heap.size,n*4+1,none⟩=false:=hT.free (n*4+1)
     have f2:wr.frozen? ⟨w.heap.size,n*4+2,none⟩=false:=hT.free (n*4+2)
     have f3:wr.frozen? ⟨w.heap.size,n*4+3,none⟩=false:=hT.free (n*4+3)
     have n1':gp≠w.heap.size:=fun e=>n1 e.symm
     have hn0:(0:Int)≤(n:Int):=by omega
     have hn1:(n:Int)<64:=by omega
     have HP:=Lib.hid hP
     have HT:=Lib.hid hT
     have HL:=Lib.hid hL
     clear hP hT hL
     go_wp2_with fail
     go_region_held3 (fun x=>x.cell? ⟨gp,n,none⟩=some (.int .u8 ((u n).toNat:Int))∧x.cell? ⟨gp,64+n,none⟩=some (.int .u8 ((u (64+n)).toNat:Int))∧x.cell? ⟨gp,128+n,none⟩=some (.int .u8 ((u (128+n)).toNat:Int)))
      (refine ⟨?_,?_,?_⟩<;>(repeat (first|exact d0|exact d1|exact d2|refine sc_keep n1' ?_)))
      (first|(go_at_call 198;refine (back_any _ _ _ _).mono ?_;rintro e w2 ⟨rfl,rfl⟩))
     all_goals
      go_wp2_with fail
      go_roundw
      case rel=>
       refine ⟨n+1,by omega,by go_num,Bk.drew ((((Bk.other HP.out _ _ n1').other _ _ n1').other _ _ n1').other _ _ n1'),
        Bk.drew (((((Bk.set HT.out (n*4) _).set (n*4+1) _).set (n*4+2) _).set (n*4+3) _).congr (fun j _=>tilN_put u n j)),?_⟩
       exact ((((Below.setCell HL.out (p:=⟨w.heap.size,n*4,none⟩) (Nat.le_refl _) _).setCell (p:=⟨w.heap.size,n*4+1,none⟩) (Nat.le_refl _) _).setCell (p:=⟨w.heap.size,n*4+2,none⟩) (Nat.le_refl _) _).setCell (p:=⟨w.heap.size,n*4+3,none⟩) (Nat.le_refl _) _).drew
      case measure=>simp[intOf];omega
    ·have hn64:n=64:=by omega
     have hT2:Bk w.heap.size 38 256 (til u) wr:=hT.congr (fun j hj=>(by rw[hn64];exact tilN_full u j hj))
     clear hT hn64
     have hself:wr.setRow w.heap.size (cf 256 (til u))=wr:=setRow_self _ _ _ _ _ hT2
     go_wp2_with (first
      |(refine wpList_load_row rfl 38 _ rfl w.heap.size rfl 38 _ (0,0) _ hT2 Tryz.underlying38 rfl (by rw[cf_size];exact Tryz.size38) ?_)
      |(refine wpList_store_row rfl 38 _ _ rfl w.heap.size (cf 256 (til u)) rfl rfl 38 (cf 256 (til u)) hT2 (by rw[cf_size];exact Tryz.size38) rfl (cf_one _ _) ?_))
     exact bodyPost_ret (v:=.tuple #[.agg (cf 256 (til u)),.int .i64 0]) (results_row_tmp (fn:=Tryz.f173) (p:=4) (u:=5) (ty:=38) rfl _ _ w.heap.size _ rfl (run_loadVar_row wr w.heap.size 38 38 _ (0,0) _ hT2 Tryz.underlying38 rfl (by rw[cf_size];exact Tryz.size38))) rfl ⟨by rw[HU.out],hL⟩
end
end Go.Proofs.YtpdckpifhniioaaGreat.Prd
end
section
set_option linter.unusedVariables false
set_option linter.unusedSimpArgs false
namespace Go.Proofs.YtpdckpifhniioaaGreat
open Go.RowKit
namespace Ab
theorem enters147:Enters Tryz.prog 147:=fun args w=>by go_simp
theorem enters172:Enters Tryz.prog 172:=fun args w=>by go_simp
theorem enters173:Enters Tryz.prog 173:=fun args w=>by go_simp
theorem plLs_tv:∀l:List Nat,∀t:Nat→UInt8,plLs (l.map fun i=>ub (t i))=some (l.map fun i=>bv8 (t i))
 |[],_=>rfl
 |i::l,t=>by
  simp only[List.map_cons,plLs,Leaf.pl]
  rw[show leafy (Value.int .u8 ((t i).toNat:Nat))=true from rfl,plLs_tv l t]
theorem plLs_tl (t:Nat→UInt8):plLs (tl t)=some (tv t):=plLs_tv _ t
theorem cpl_agg {xs:List Leaf} {ys:List Value} (h:plLs xs=some ys):(Cp.agg xs).pl=some (.agg ys.toArray):=by simp only[Cp.pl,h]
theorem tv_cf (t:Nat→UInt8):(tv t).toArray=Prd.cf 256 t:=by unfold tv Prd.cf;rfl
theorem cpl_tl (t:Nat→UInt8):(Cp.agg (tl t)).pl=some (.agg (Prd.cf 256 t)):=by rw[cpl_agg (plLs_tl t),tv_cf]
theorem C147 (n:Nat):CallOK Tryz.prog 147 [] [] n (iv .i64 6) [] 0:=
 call_plain enters147 (vals:=[]) (y:=.int .i64 6) rfl rfl n fun x=>(Prd.Predictors_any x).mono fun e x' h=>⟨h.1,h.2⟩
theorem C172 (s:ByteArray) (k:Int) (h0:0≤k) (hk:k≤65536) (hs:s.size≤1000000000000000) (n:Nat):CallOK Tryz.prog 172 [.c (.l (.v (.string s))),iv .i64 k] [] n (.tup [.l (.v (.string (Cod.dres s k.toNat).1)),.l (li (Cod.dres s k.toNat).2)]) [] 0:=
 call_plain enters172 (vals:=[.string s,.int .i64 k]) (y:=.tuple #[.string (Cod.dres s k.toNat).1,.int .i64 (Cod.dres s k.toNat).2]) rfl rfl n fun x=>by
  have e:(k.toNat:Int)=k:=by omega
  have:=Cod.decode_any s k.toNat (by omega) hs x
  rw[e] at this
  exact this.mono fun e x' h=>⟨h.1,h.2⟩
theorem C173 (f:Nat→UInt8) (k:Int) (h0:0≤k) (hk:k<6) (n:Nat):CallOK Tryz.prog 173 [.c (.l (.v (.string (Prd.St f)))),iv .i64 k] [] n (.tup [.agg (tl (Prd.til (Prd.M.unp k.toNat f 256))),.l (li 0)]) [] 0:=
 call_plain enters173 (vals:=[.string (Prd.St f),.int .i64 k]) (y:=.tuple #[.agg (Prd.cf 256 (Prd.til (Prd.M.unp k.toNat f 256))),.int .i64 0]) rfl (by
  unfold SV.pl
  simp only[plCs]
  rw[cpl_tl]
  rfl) n fun x=>by
  have e:(k.toNat:Int)=k:=by omega
  have:=Prd.inverse_any f k.toNat (by omega) x
  rw[e] at this
  exact this.mono fun e x' h=>⟨h.1,h.2⟩
theorem fw_len (k:Nat) (t:Nat→UInt8):(Prd.fw k t).size=256:=Prd.fw_size k t
def bst (t:Nat→UInt8):Nat→Nat×Nat
 |0=>(0,1073741824)
 |k+1=>bif decide ((Prd.M.cost (Prd.fw k t).data.toList:Nat)<(bst t k).2) then (k,Prd.M.cost (Prd.fw k t).data.toList) else bst t k
def bestT (t:Nat→UInt8):Nat:=(bst t 6).1
def costI (k:Nat) (t:Nat→UInt8):Int:=(Prd.M.cost (Prd.fw k t).data.toList:Nat)
theorem bst_lt (t:Nat→UInt8):∀k,0<k→(bst t k).1<k
 |0,h=>by omega
 |k+1,_=>by
  rw[bst]
  by_cases h:(Prd.M.cost (Prd.fw k t).data.toList:Nat)<(bst t k).2
  ·rw[decide_eq_true h];exact Nat.lt_succ_self k
  ·rw[decide_eq_false h]
   rcases Nat.eq_zero_or_pos k with rfl|hk
   ·exact Nat.zero_lt_one
   ·exact Nat.lt_succ_of_lt (bst_lt t k hk)
theorem bestT_lt (t:Nat→UInt8):bestT t<6:=bst_lt t 6 (by decide)
end Ab
end Go.Proofs.YtpdckpifhniioaaGreat
end
section
set_option linter.unusedVariables false
namespace Go.Proofs.YtpdckpifhniioaaGreat
open Go.RowKit
namespace Ab
def Plain (l:List Leaf):Prop:=∀x∈l,∃v,x=.v v
theorem Plain.append {l m:List Leaf} (h:Plain l) (k:Plain m):Plain (l++m):=fun x hx=>by
 rcases List.mem_append.1 hx with hx|hx
 ·exact h x hx
 ·exact k x hx
theorem plain_tl (t:Nat→UInt8):Plain (tl t):=tl_plain t
theorem plain_rws (l:List TA):Plain (rws l):=rws_plain l
section
variable {P:Program} {S:St} {l:List (Nat×Option Nat)} {n t id j:Nat}
theorem LeR.sl_int {k:IntKind} {x y:Int} (h:S.sl t=iv k y) (e:y=x):LeR l n (S.sl t) (iv k x):=by
 rw[h,e];exact LeR.of rfl
theorem LeR.sl_o {m m':Nat} (h:S.sl t=.c (.l (.o j m))) (hr:ri l n j=some id) (e:m=m'):LeR l n (S.sl t) (.c (.l (.o id m'))):=by
 rw[h,e];exact LeR.of (by simp[SV.rn,Cp.rn,Leaf.rn,hr])
theorem LeN.sl_o {m m':Nat} (h:S.sl t=.c (.l (.o id m))) (hi:Nat.blt id n=true) (e:m=m'):LeN n (S.sl t) (.c (.l (.o id m'))):=by
 rw[h,e];refine LeN.of rfl ?_
 simp only[ltN,SV.rn,Cp.rn,Leaf.rn,rnId,hi,Option.isSome_some]
theorem BkM.plain {cs cs':List Leaf} {b b':BT} (h:S.blk j=some ⟨cs,b⟩) (e:cs=cs') (hp:Plain cs') (hb:b.rn (ri l n)=some b'):BkM l n (S.blk j) ⟨cs',b'⟩:=by
 subst e
 rw[h];refine BkM.of ?_
 unfold Blk.rn
 simp only[rnLs_plain _ cs hp,hb]
theorem BkN.plain {cs cs':List Leaf} {b:BT} (h:S.blk id=some ⟨cs,b⟩) (e:cs=cs') (hp:Plain cs') (hb:(b.rn (rnId n 0 [])).isSome=true):BkN n (S.blk id) ⟨cs',b⟩:=by
 subst e
 rw[h];refine BkN.of rfl ?_
 unfold blkLt
 simp only[rnLs_plain _ cs hp,hb,Option.isSome_some,Bool.and_self]
theorem BkM.blk {k k'' k':Blk} (h:S.blk j=some k) (hr:k.rn (ri l n)=some k'') (e:k''=k'):BkM l n (S.blk j) k':=by
 rw[h];subst e;exact BkM.of hr
theorem BkR.plain {ρ:Nat→Option Nat} {cs cs':List Leaf} {b b':BT} (e:cs=cs') (hp:Plain cs') (hb:b.rn ρ=some b'):BkR ρ ⟨cs,b⟩ ⟨cs',b'⟩:=by
 subst e
 refine BkR.of ?_
 unfold Blk.rn
 simp only[rnLs_plain _ cs hp,hb]
theorem blkLt_plain {cs:List Leaf} {b:BT} (hp:Plain cs) (hb:(b.rn (rnId n 0 [])).isSome=true):blkLt n ⟨cs,b⟩=true:=by
 unfold blkLt
 simp only[rnLs_plain _ cs hp,hb,Option.isSome_some,Bool.and_self]
end
theorem RoundTo.toN {P:Program} {c:Code} {n:Nat} {K:Exit→St→Prop} (N:Nat) {E:List (Nat×SV)} {H:List (Nat×Option Blk)} {m q:Nat} {W:List Nat} (S:St) (hn:n≤S.n) (hb:wkB ⟨E,H,N,m,W,q⟩ S=true) (hE:wkE ⟨E,H,N,m,W,q⟩ S.n S.E) (hH:wkH ⟨E,H,N,m,W,q⟩ S.n S.H) (h:WPL P c S K):RoundTo P c n K ⟨E,H,N,m,W,q⟩:=RoundTo.to S hn hb hE hH h
theorem RoundTo.reN {P:Program} {c:Code} {n:Nat} {K:Exit→St→Prop} (N:Nat) {E:List (Nat×SV)} {H:List (Nat×Option Blk)} {m q:Nat} {W:List Nat} (l:List (Nat×Option Nat)) (S:St) (hb:wkBR l ⟨E,H,N,m,W,q⟩ S=true) (hE:wkER l ⟨E,H,N,m,W,q⟩ S.n S.E) (hH:wkHR l ⟨E,H,N,m,W,q⟩ S.n S.H) (h:WPL P c S K):RoundTo P c n K ⟨E,H,N,m,W,q⟩:=RoundTo.re l S hb hE hH h
theorem apB {P:Program} {e need bytes:Nat} (h:(P.info? e).map (·.bytes)=some bytes) (k:need*(bytes+1)≤140737488355328):ApB P e need:=fun i hi=>by
 rw[hi] at h
 cases h
 exact k
def tb (t:Nat→UInt8) (m:Nat):List Leaf:=(List.range m).map fun i=>ub (t i)
theorem tb_len (t:Nat→UInt8) (m:Nat):(tb t m).length=m:=by simp[tb]
theorem tb_all (t:Nat→UInt8) (m:Nat):AllB (tb t m):=fun x hx=>by
 simp only[tb,List.mem_map] at hx
 obtain ⟨i,_,rfl⟩:=hx
 exact ⟨_,rfl⟩
theorem tb_plain (t:Nat→UInt8) (m:Nat):Plain (tb t m):=fun x hx=>by
 obtain ⟨b,rfl⟩:=tb_all t m x hx
 exact ⟨_,rfl⟩
theorem tb_str (t:Nat→UInt8) (m:Nat):strL (tb t m)=⟨((List.range m).map t).toArray⟩:=by
 unfold strL tb
 congr 2
 rw[List.map_map]
 apply List.map_congr_left
 intro i _
 simp[lfB]
theorem tb_four (t:Nat→UInt8) (m:Nat):tb t m++[ub (t m),ub (t (m+1)),ub (t (m+2)),ub (t (m+3))]=tb t (m+4):=by
 simp[tb,List.range_succ]
end Ab
end Go.Proofs.YtpdckpifhniioaaGreat
end
section
set_option linter.unusedVariables false
set_option linter.unusedSimpArgs false
namespace Go.Proofs.YtpdckpifhniioaaGreat
open Go.RowKit
namespace Ab
def bytesT (t:Nat→UInt8):ByteArray:=⟨((List.range 256).map t).toArray⟩
theorem tb_next (t:Nat→UInt8) (k:Nat):tb t (4*k)++[ub (t (4*k)),ub (t (4*k+1)),ub (t (4*k+2)),ub (t (4*k+3))]=tb t (4*(k+1)):=tb_four t (4*k)
theorem bytesT_len (t:Nat→UInt8):(bytesT t).size=256:=by unfold bytesT;simp[ByteArray.size]
end Ab
end Go.Proofs.YtpdckpifhniioaaGreat
end
section
set_option linter.unusedVariables false
set_option linter.unusedSimpArgs false
namespace Go.Proofs.YtpdckpifhniioaaGreat
open Go.RowKit
namespace Ab
def rnd (a b:Int):Int:=(2*a+b).tdiv (2*b)
def mch (s s3:Int):Int:=bif rnd s3 64==0 then 0 else IntKind.u8.wrap (rnd s s3)
def mal (s3:Int):Int:=bif rnd s3 64==0 then 0 else IntKind.u8.wrap (rnd s3 64)
theorem rnd_bd {a b:Int} (h0:0≤a) (h1:a≤1000000000) (b0:0<b) (b1:b≤1000000000):0≤rnd a b∧rnd a b≤2*a+b:=by
 unfold rnd
 rw[Int.tdiv_eq_ediv_of_nonneg (by omega)]
 exact ⟨Int.ediv_nonneg (by omega) (by omega),Int.ediv_le_self _ (by omega)⟩
theorem mul_bd {e a:Int} (he:0≤e∧e<256) (ha:0≤a∧a<256):0≤e*a∧e*a≤65025:=
 ⟨Int.mul_nonneg he.1 ha.1,by
  have:=Int.mul_le_mul (show e≤255 by omega) (show a≤255 by omega) ha.1 (by omega:(0:Int)≤255)
  omega⟩
theorem u8w {a:Int} (h:0≤a∧a<256):IntKind.i64.wrap a=a:=by rw[IntKind.wrap_i64];omega
def up1 (id n:Nat):Nat→Nat
 |0=>id
 |k+1=>n+k
theorem CallOK.at1 {P:Program} {f:Nat} {args:List SV} {k:Blk} {v:SV} {wr:List (Nat×Blk)} {nw:Nat} (h:CallOK P f args [(0,k)] 1 v wr nw) (id n:Nat) (hi:id<n) :
  CallOK P f (args.map (SV.ren (up1 id n))) [(id,k.ren (up1 id n))] n (v.ren (up1 id n)) (wr.map fun p=>(up1 id n p.1,p.2.ren (up1 id n))) nw:=
 CallOK.ren h (up1 id n) n (fun i hi'=>by
  have:i=0:=by omega
  subst this;exact hi) (fun i hi'=>by
  cases i with
  |zero=>omega
  |succ k=>show n+k=n+(k+1-1);omega) (fun i j h1 h2 _=>by omega)
end Ab
end Go.Proofs.YtpdckpifhniioaaGreat
end
section
set_option linter.unusedVariables false
set_option linter.unusedSimpArgs false
namespace Go.Proofs.YtpdckpifhniioaaGreat
open Go.RowKit
namespace Ab
theorem rnd_pos {s:Int} (h0:0≤s) (h:(rnd s 64==0)=false):0<s:=by
 rcases Int.lt_or_eq_of_le h0 with h1|h1
 ·exact h1
 ·subst h1;exact absurd h (by decide)
def ch (t:Nat→UInt8) (c k:Nat):Int:=match c with|0=>((t (4*k)).toNat:Nat)|1=>((t (4*k+1)).toNat:Nat)|2=>((t (4*k+2)).toNat:Nat)|_=>1
def mS (t:Nat→UInt8) (c:Nat):Nat→Int
 |0=>0
 |k+1=>mS t c k+((t (4*k+3)).toNat:Nat)*ch t c k
def meanL (t:Nat→UInt8):List Leaf:=[u8 (mch (mS t 0 64) (mS t 3 64)),u8 (mch (mS t 1 64) (mS t 3 64)),u8 (mch (mS t 2 64) (mS t 3 64)),u8 (mal (mS t 3 64))]
theorem ch_bd (t:Nat→UInt8) (c k:Nat):0≤ch t c k∧ch t c k<256:=by
 unfold ch
 split
 ·exact okb _
 ·exact okb _
 ·exact okb _
 ·omega
theorem mS_bd (t:Nat→UInt8) (c:Nat):∀k,0≤mS t c k∧mS t c k≤65025*(k:Nat)
 |0=>⟨Int.le_refl _,Int.le_refl _⟩
 |k+1=>by
  have h1:=mS_bd t c k
  have h2:=mul_bd (okb (t (4*k+3))) (ch_bd t c k)
  rw[mS]
  omega
theorem mS_b (t:Nat→UInt8) (c:Nat) {k:Nat} (h:k≤64):0≤mS t c k∧mS t c k≤10000000:=by
 have:=mS_bd t c k
 omega
theorem mS_b' (t:Nat→UInt8) (c:Nat) {k:Nat} (h:k≤64):0≤mS t c k∧mS t c k≤1000000000:=by
 have:=mS_bd t c k
 omega
end Ab
end Go.Proofs.YtpdckpifhniioaaGreat
end
section
set_option linter.unusedVariables false
set_option linter.unusedSimpArgs false
namespace Go.Proofs.YtpdckpifhniioaaGreat
open Go.RowKit
namespace Ab
theorem u8_rng (x:Int):0≤IntKind.u8.wrap x∧IntKind.u8.wrap x<256:=by rw[IntKind.wrap_u8];omega
theorem mch_bd (s s3:Int):0≤mch s s3∧mch s s3<256:=by
 unfold mch
 cases rnd s3 64==0
 ·exact u8_rng _
 ·exact ⟨Int.le_refl _,by show (0:Int)<256;decide⟩
theorem mal_bd (s3:Int):0≤mal s3∧mal s3<256:=by
 unfold mal
 cases rnd s3 64==0
 ·exact u8_rng _
 ·exact ⟨Int.le_refl _,by show (0:Int)<256;decide⟩
theorem u8_ofI {x:Int} (h:0≤x∧x<256):u8 x=ub (ofI x):=by
 unfold ofI
 have:((UInt8.ofNat x.toNat).toNat:Int)=x:=by
  rw[UInt8.toNat_ofNat']
  omega
 rw[show ub (UInt8.ofNat x.toNat)=u8 ((UInt8.ofNat x.toNat).toNat:Nat) from rfl,this]
def meanB (t:Nat→UInt8) (c:Nat):UInt8:=ofI (match c with|0=>mch (mS t 0 64) (mS t 3 64)|1=>mch (mS t 1 64) (mS t 3 64)|2=>mch (mS t 2 64) (mS t 3 64)|_=>mal (mS t 3 64))
def codT (t:Nat→UInt8):ByteArray:=⟨#[2,UInt8.ofNat (bestT t)]⟩++⟨(Cod.M.enc (Prd.fw (bestT t) t).data.toList).toArray⟩
def blobT (t:Nat→UInt8):ByteArray:=bif solT t then ⟨#[0,t 0,t 1,t 2,t 3]⟩ else bif decide (((codT t).size:Int)<257) then codT t else ⟨#[1]⟩++bytesT t
theorem meanL_ub (t:Nat→UInt8):meanL t=[ub (meanB t 0),ub (meanB t 1),ub (meanB t 2),ub (meanB t 3)]:=by
 unfold meanL
 rw[u8_ofI (mch_bd _ _),u8_ofI (mch_bd _ _),u8_ofI (mch_bd _ _),u8_ofI (mal_bd _)]
 rfl
theorem strOf_bytes (l:List UInt8):strOf (l.map fun b=>((b.toNat:Nat):Int))=⟨l.toArray⟩:=by
 unfold strOf
 rw[List.map_map]
 congr 2
 rw[show ((fun b:Int=>UInt8.ofNat b.toNat)∘fun b:UInt8=>((b.toNat:Nat):Int))=id from funext fun b=>by simp]
 exact List.map_id l
theorem inb (b:UInt8):inByte ((b.toNat:Nat):Int):=okb b
theorem enc_sz (k:Nat) (t:Nat→UInt8):(⟨(Cod.M.enc (Prd.fw k t).data.toList).toArray⟩:ByteArray).size≤8196:=by
 have h:=Cod.M.enc_bd (Prd.fw k t).data.toList
 have e:(Prd.fw k t).data.toList.length=256:=by
  rw[Array.length_toList];exact fw_len k t
 rw[e] at h
 simpa [ByteArray.size] using h
theorem codT_sz (t:Nat→UInt8):(codT t).size≤8198:=by
 unfold codT
 rw[ByteArray.size_append]
 have:=enc_sz (bestT t) t
 have e:(⟨#[2,UInt8.ofNat (bestT t)]⟩:ByteArray).size=2:=rfl
 omega
theorem blobT_1 {t:Nat→UInt8} (h:solT t=true):(⟨#[0]⟩:ByteArray)++⟨#[t 0,t 1,t 2,t 3]⟩=blobT t:=by
 unfold blobT;rw[h];rfl
theorem blobT_2 {t:Nat→UInt8} (h:solT t=false) (k:decide (((codT t).size:Int)<257)=true):codT t=blobT t:=by
 unfold blobT;rw[h,k];rfl
theorem blobT_3 {t:Nat→UInt8} (h:solT t=false) (k:decide (((codT t).size:Int)<257)=false):(⟨#[1]⟩:ByteArray)++bytesT t=blobT t:=by
 unfold blobT;rw[h,k];rfl
theorem solP_t' {t:Nat→UInt8} (h:solT t=true):[ub (solP t 0),ub (solP t 1),ub (solP t 2),ub (solP t 3)]=[ub (t 0),ub (t 1),ub (t 2),ub (t 3)]:=by
 unfold solP;rw[if_pos h,if_pos h,if_pos h,if_pos h]
theorem best8 (t:Nat→UInt8):IntKind.u8.wrap ((bestT t:Nat):Int)=((UInt8.ofNat (bestT t)).toNat:Nat):=by
 have:=bestT_lt t
 rw[IntKind.wrap_u8,UInt8.toNat_ofNat']
 omega
attribute [local irreducible] solT codT bestT blobT bytesT tl sameT Prd.fw Cod.M.enc
end Ab
end Go.Proofs.YtpdckpifhniioaaGreat
end
section
set_option linter.unusedVariables false
namespace Go.Proofs.YtpdckpifhniioaaGreat
open Go.RowKit
namespace Ab
set_option maxHeartbeats 1000000 in
theorem fin_done {P:Program} {fn:Func} {args:List SV} {H:List (Nat×Blk)} {n:Nat} {v:SV} {wr:List (Nat×Blk)} {nm:List Nat} {β:Bt} {x:World} (hck:inck args H n fn.ntmps wr nm=true)
  (hinj:∀i j b,β i=some b→β j=some b→i=j) (hlt:∀i b,β i=some b→b<x.heap.size) (hnone:∀id,n≤id→id<n+nm.length→β id=none∧β.c id=none) :
  ∀S' β' a' x',fin P fn.results.toList n v wr nm S'→Nx n S'.W (cut β n) x β' x'→Rep β' S' a' x'→
   a'.defers=[]∧∃y,(results fn a'.tmps).run P x'=.ok y x'∧∃y' β'',Ending.returned y=.returned y'∧Done n nm.length β x wr v y' β'' x':=by
 simp only[inck,Bool.and_eq_true] at hck
 obtain ⟨c1,c2,c3,c4,c5,c6⟩:=hck
 intro S' β' a' x' hfin hN hR'
 unfold fin at hfin
 split at hfin
 ·rename_i v' hv'
  split at hfin
  ·rename_i v'' hv''
   obtain ⟨hle,hwr⟩:=hfin
   split at hwr
   ·rename_i hwck
    obtain ⟨y,hy,hyd⟩:=resV_sound hR' hv'
    obtain ⟨β₂,hβ₂⟩:∃g:Bt,g=⟨fun id=>if id<n then β id else if id<n+nm.length then (match nm[id-n]? with|some j=>β' j|none=>none) else β id,
     fun id=>if id<n then β.c id else if id<n+nm.length then (match nm[id-n]? with|some j=>β'.c j|none=>none) else β.c id⟩:=⟨_,rfl⟩
    refine ⟨hR'.defs,y,hy,y,β₂,rfl,?_⟩
    have b1:∀id,id<n→β₂ id=β id:=fun id hi=>by rw[hβ₂];exact if_pos hi
    have d1:∀id,id<n→β₂.c id=β.c id:=fun id hi=>by rw[hβ₂];exact if_pos hi
    have b2:∀q j,nm[q]? = some j→β₂ (n+q)=β' j:=fun q j hq=>by
     have hql:q<nm.length:=(List.getElem?_eq_some_iff.1 hq).1
     rw[hβ₂]
     show (if n+q<n then _ else _)=_
     rw[if_neg (by omega),if_pos (by omega),show n+q-n=q by omega,hq]
    have d2:∀q j,nm[q]? = some j→β₂.c (n+q)=β'.c j:=fun q j hq=>by
     have hql:q<nm.length:=(List.getElem?_eq_some_iff.1 hq).1
     rw[hβ₂]
     show (if n+q<n then _ else _)=_
     rw[if_neg (by omega),if_pos (by omega),show n+q-n=q by omega,hq]
    have b3:∀id,n+nm.length≤id→β₂ id=β id:=fun id hi=>by
     rw[hβ₂];show (if id<n then _ else _)=_;rw[if_neg (by omega),if_neg (by omega)]
    have d3:∀id,n+nm.length≤id→β₂.c id=β.c id:=fun id hi=>by
     rw[hβ₂];show (if id<n then _ else _)=_;rw[if_neg (by omega),if_neg (by omega)]
    have b4:∀id,id<n→β' id=β id:=fun id hi=>(hN.old id hi).trans (cut_lt hi)
    have d4:∀id,id<n→β'.c id=β.c id:=fun id hi=>(hN.oldc id hi).trans (cut_ltc hi)
    have hnmge:∀q j,nm[q]? = some j→n≤j:=fun q j hq=>Nat.le_of_ble_eq_true ((List.all_eq_true.1 c5) j (List.mem_of_getElem? hq))
    have hnew:∀q j b,nm[q]? = some j→β' j=some b→x.heap.size≤b:=fun q j b hq hb=>by
     rcases hN.new j b hb with ⟨h1,_⟩|⟨_,h2|⟨i,h2,h3⟩⟩
     ·have:=hnmge q j hq;omega
     ·exact h2
     ·have:=(cut_some h3).1;omega
        -- where a name of β₂ comes from
    have src:∀id b,β₂ id=some b→(β id=some b∧(id<n∨n+nm.length≤id))∨(∃q j,nm[q]? = some j∧id=n+q∧β' j=some b):=fun id b hb=>by
     by_cases h1:id<n
     ·rw[b1 id h1] at hb;exact .inl ⟨hb,.inl h1⟩
     ·by_cases h2:id<n+nm.length
      ·have hq:nm[id-n]? = some nm[id-n]:=List.getElem?_eq_getElem (by omega)
       have:=b2 (id-n) _ hq
       rw[show n+(id-n)=id by omega] at this
       rw[this] at hb
       exact .inr ⟨id-n,_,hq,by omega,hb⟩
      ·rw[b3 id (by omega)] at hb;exact .inl ⟨hb,.inr (by omega)⟩
    have hrn:RnTo (rnId n 0 nm) β' β₂:=⟨fun i j b hi hb=>by
     rcases rnId_spec hi with ⟨e,hl⟩|⟨q,hq,e⟩
     ·rw[e,b1 i hl,←b4 i hl];exact hb
     ·rw[e,show n+(0+q)=n+q by omega,b2 q i hq];exact hb,fun i j b hi hb=>by
     rcases rnId_spec hi with ⟨e,hl⟩|⟨q,hq,e⟩
     ·rw[e,d1 i hl,←d4 i hl];exact hb
     ·rw[e,show n+(0+q)=n+q by omega,d2 q i hq];exact hb⟩
    refine ⟨hle β₂ y (sv_rn hrn hv'' hyd),⟨fun id b hb=>?_,fun id b hb=>?_⟩,fun id b hb=>?_,fun id v hv=>?_,fun i j b hi hj=>?_,fun i b hb=>?_,hN.os,hN.tape,hN.output,hN.size,fun k hk hne=>?_,fun id b k hb hk=>?_⟩
    ·by_cases h1:id<n
     ·rw[b1 id h1];exact hb
     ·by_cases h2:id<n+nm.length
      ·rw[(hnone id (by omega) h2).1] at hb;cases hb
      ·rw[b3 id (by omega)];exact hb
    ·by_cases h1:id<n
     ·rw[d1 id h1];exact hb
     ·by_cases h2:id<n+nm.length
      ·rw[(hnone id (by omega) h2).2] at hb;cases hb
      ·rw[d3 id (by omega)];exact hb
    ·rcases src id b hb with ⟨h1,_⟩|⟨q,j,hq,e,hb'⟩
     ·exact .inl h1
     ·have hql:q<nm.length:=(List.getElem?_eq_some_iff.1 hq).1
      exact .inr ⟨by omega,by omega,hnew q j b hq hb'⟩
    ·by_cases h1:id<n
     ·rw[d1 id h1] at hv;exact .inl hv
     ·by_cases h2:id<n+nm.length
      ·exact .inr ⟨by omega,h2⟩
      ·rw[d3 id (by omega)] at hv;exact .inl hv
    ·rcases src i b hi with ⟨h1,_⟩|⟨q,j1,hq,e,hb'⟩
     ·rcases src j b hj with ⟨k1,_⟩|⟨q',j2,hq',e',hb''⟩
      ·exact hinj i j b h1 k1
      ·have:=hnew q' j2 b hq' hb'';have:=hlt i b h1;omega
     ·rcases src j b hj with ⟨k1,_⟩|⟨q',j2,hq',e',hb''⟩
      ·have:=hnew q j1 b hq hb';have:=hlt j b k1;omega
      ·have hjj:=hR'.inj j1 j2 b hb' hb''
       subst hjj
       have:=nodup_inj c6 hq hq'
       omega
    ·rcases src i b hb with ⟨h1,_⟩|⟨q,j,hq,e,hb'⟩
     ·exact Nat.lt_of_lt_of_le (hlt i b h1) hN.size
     ·exact (hR'.lt j b hb').1
    ·refine hN.keep k hk fun id hid=>⟨(cut_some hid).1,fun hw=>?_⟩
     have:=(List.all_eq_true.1 hwck) id hw
     simp only[Bool.or_eq_true] at this
     rcases this with h1|h1
     ·have:=Nat.le_of_ble_eq_true h1;have:=(cut_some hid).1;omega
     ·rw[hne id (cut_some hid).2] at h1;cases h1
    ·obtain ⟨k',h1,h2⟩:=wrs_spec hwr hk
     have hidlt:id<n+nm.length:=Nat.le_of_ble_eq_true ((List.all_eq_true.1 c4) _ (lk_mem hk))
     have hb':β' (srcId n nm id)=some b:=by
      unfold srcId
      rcases src id b hb with ⟨q1,q2⟩|⟨q,j,hq,e,hb'⟩
      ·rcases q2 with q2|q2
       ·have:Nat.blt id n=true:=Nat.ble_eq_true_of_le q2
        rw[this];simp only;rw[b4 id q2];exact q1
       ·omega
      ·have:Nat.blt id n=false:=by
        cases hbb:Nat.blt id n with
        |false=>rfl
        |true=>have:=Nat.le_of_ble_eq_true hbb;omega
       rw[this];simp only
       rw[e,show n+q-n=q by omega,List.getD,hq]
       exact hb'
     exact h2 β' β₂ x' b hrn (hR'.blk _ b k' hb' h1)
   ·exact hwr.elim
  ·exact hfin.elim
 ·exact hfin.elim
set_option maxHeartbeats 1000000 in
theorem call_ok2 {P:Program} {cx:Cz} (hm:P.follows .mixedOrders=true) (N1:Nat) {f:Nat} {fn:Func} {body:Code} (hf:P.funcs[f]? = some fn) (hb:fn.body=some body) (hent:Enters P f)
  {args:List SV} {H:List (Nat×Blk)} {n:Nat} {v:SV} {wr:List (Nat×Blk)} {nm nm2:List Nat} (hck:inck args H n fn.ntmps wr nm=true) (hck2:inck args H n fn.ntmps wr nm2=true) (hl:nm2.length=nm.length) (h:ev P cx body (st0 args H n fn.ntmps) fun e S=>match Nat.beq S.n N1 with|true=>finK P fn.results.toList n v wr nm e S|false=>finK P fn.results.toList n v wr nm2 e S):CallOK P f args H n v wr nm.length:=by
 refine ⟨hent,fun β x vals hd hinj hlt hnone hH _=>?_⟩
 have hck0:=hck
 simp only[inck,Bool.and_eq_true] at hck
 obtain ⟨c1,c2,c3,c4,c5,c6⟩:=hck
 have c1:=Nat.le_of_ble_eq_true c1
 have hd':=ltN_all (cut_to (n:=n)) c2 hd
 have hdl:=hd.length
 have hR:Rep (cut β n) (st0 args H n fn.ntmps) {tmps:=vals.toArray++Array.replicate (fn.ntmps-vals.toArray.size) undef,defers:=[]} x:=by
  refine ⟨fun t=>?_,by simp[st0];omega,rfl,fun id b k hb hk=>?_,fun i j b hi hj=>hinj i j b (cut_some hi).2 (cut_some hj).2,fun i b hb=>⟨hlt i b (cut_some hb).2,(cut_some hb).1⟩,fun i v hv=>(cut_somec hv).1,Nat.le_refl _⟩
  ·show SV.den _ (match lk (numb 0 args) t with|some v=>v|none=>.u) _
   cases hq:lk (numb 0 args) t with
   |none=>trivial
   |some s=>
    obtain ⟨_,hs⟩:=lk_numb hq
    obtain ⟨y,hy,hyd⟩:=hd'.get hs
    have hlt':t<vals.length:=(List.getElem?_eq_some_iff.1 hy).1
    have:Act.eval {tmps:=vals.toArray++Array.replicate (fn.ntmps-vals.toArray.size) undef,defers:=[]} (.tmp t)=y:=by
     show (vals.toArray++Array.replicate (fn.ntmps-vals.toArray.size) undef).getD t undef=y
     rw[Array.getD_eq_getD_getElem?,Array.getElem?_append_left (by simpa using hlt')]
     have hy':vals[t]? = some y:=by simpa using hy
     simp[hy']
    rw[this];exact hyd
  ·have hk':lk H id=some k:=by
    have:(st0 args H n fn.ntmps).blk id=match lk (H.map fun p=>(p.1,some p.2)) id with|some b=>b|none=>none:=rfl
    rw[this,lk_map] at hk
    cases hq:lk H id with
    |none=>rw[hq] at hk;cases hk
    |some k'=>rw[hq] at hk;exact hk
   exact blkLt_den ((List.all_eq_true.1 c3) _ (lk_mem hk')) (hH id b k (cut_some hb).2 hk') cut_to
 refine calls_of_wp hf hb (wp_mono (ev_sound hm body _ _ h (cut β n) _ x hR) ?_)
 have hnone2:∀id,n≤id→id<n+nm2.length→β id=none∧β.c id=none:=fun id h1 h2=>hnone id h1 (by omega)
 rintro e a' x' ⟨S',β',hk,h1,_,h3,h4⟩
 split at hk
 ·cases e with
  |normal=>exact fin_done hck0 hinj hlt hnone S' β' a' x' hk h3 h4
  |ret=>exact fin_done hck0 hinj hlt hnone S' β' a' x' hk h3 h4
  |exit i=>exact hk.elim
  |goto i=>exact hk.elim
  |panic i=>exact hk.elim
  |outgrown=>exact hk.elim
 ·cases e with
  |normal=>have:=fin_done hck2 hinj hlt hnone2 S' β' a' x' hk h3 h4;rw[hl] at this;exact this
  |ret=>have:=fin_done hck2 hinj hlt hnone2 S' β' a' x' hk h3 h4;rw[hl] at this;exact this
  |exit i=>exact hk.elim
  |goto i=>exact hk.elim
  |panic i=>exact hk.elim
  |outgrown=>exact hk.elim
theorem RoundTo.reH {P:Program} {c:Code} {n:Nat} {K:Exit→St→Prop} (N k2:Nat) {h1:Nat×Option Blk} {b2:Option Blk} {E:List (Nat×SV)} {H:List (Nat×Option Blk)} {m q:Nat} {W:List Nat} (l:List (Nat×Option Nat)) (S:St) (hb:wkBR l ⟨E,h1::(k2,b2)::H,N,m,W,q⟩ S=true) (hE:wkER l ⟨E,h1::(k2,b2)::H,N,m,W,q⟩ S.n S.E) (hH:wkHR l ⟨E,h1::(k2,b2)::H,N,m,W,q⟩ S.n S.H) (h:WPL P c S K):RoundTo P c n K ⟨E,h1::(k2,b2)::H,N,m,W,q⟩:=RoundTo.re l S hb hE hH h
end Ab
end Go.Proofs.YtpdckpifhniioaaGreat
end
section
set_option linter.unusedVariables false
namespace Go.Proofs.YtpdckpifhniioaaGreat.Oct
open Go.RowKit
open Go.Proofs.YtpdckpifhniioaaGreat
open Go.Lib (strCells)
theorem infoU8:(Tryz.prog.info? 5).map (fun i=>(i.zero,i.size,i.bytes))=some (some (.int .u8 0),1,1):=by kernel_rfl
theorem row_ne {x:World} {B:Nat} {v:Value} {n:Nat} {xs:List Value} {g t:Nat} {c:Array Value} {fr:Nat×Nat} (h:x.ownsRow B 5 1 v n xs) (hg:x.heap[g]? = some (.cells c t fr)) (ht:t≠5):some g≠v.ownBlock:=by
 rcases h.2 with ⟨rfl,_⟩|⟨k,cap,cur,rfl,_,hk,_⟩
 ·simp[Value.ownBlock]
 ·intro e
  have e:g=k:=by simpa [Value.ownBlock] using e
  subst e
  rw[hg] at hk
  injection hk with hk
  injection hk with _ hk _
  exact ht hk
theorem own_mem {x:World} {B:Nat} {e:TypeId} {v:Value} {n:Nat} {xs:List Value} (h:x.ownsRow B e 1 v n xs):∃o c,v=.slice o n c:=by
 rcases h.2 with ⟨rfl,h0⟩|⟨g,cap,cur,rfl,_⟩
 ·exact ⟨none,0,by rw[h0]⟩
 ·exact ⟨_,_,rfl⟩
theorem sizeBld:(Tryz.prog.info? 101).map (·.size)=some 2:=by kernel_rfl
theorem liesBld:liesAt Tryz.prog Tryz.prog.depth 101 (2 / Tryz.prog.cellsOf 101) 0 101 1=true:=by kernel_rfl
set_option maxRecDepth 100000 in
set_option maxHeartbeats 1000000 in
theorem ck_used (b:Nat) (v:Value) (w:World) (h:w.heap[b]? = some (.cells #[.pointer (some ⟨b,0,none⟩),v] 101 (0,0))) :
  Calls Tryz.prog 110 #[.pointer (some ⟨b,0,none⟩)] w fun e w'=>e=.returned (.tuple #[])∧w'=w:=by
 obtain ⟨j,hj,_⟩:=Option.map_eq_some_iff.1 sizeBld
 have h0:w.cell? ⟨b,0,none⟩=some (.pointer (some ⟨b,0,none⟩)):=by rw[Lib.cell_of_heap h];rfl
 go_enter Tryz.func110,Tryz.ntmps110
 go_wp2
 rw[Lib.run_neq_ptr_same w _ Tryz.underlying99 hj]
 go_wp2
 refine bodyPost_end (results_none rfl _ _ _) rfl ⟨rfl,rfl⟩
set_option maxRecDepth 100000 in
set_option maxHeartbeats 1000000 in
theorem ck_fresh (b:Nat) (v:Value) (w:World) (h:w.heap[b]? = some (.cells #[.pointer none,v] 101 (0,0))) :
  Calls Tryz.prog 110 #[.pointer (some ⟨b,0,none⟩)] w fun e w'=>e=.returned (.tuple #[])∧w'=w.setCell ⟨b,0,none⟩ (.pointer (some ⟨b,0,none⟩)):=by
 obtain ⟨j,hj,hjs⟩:=Option.map_eq_some_iff.1 sizeBld
 have h0:w.cell? ⟨b,0,none⟩=some (.pointer none):=by rw[Lib.cell_of_heap h];rfl
 have hfz:w.frozen? ⟨b,0,none⟩=false:=Lib.frozen_of_heap h 0
 have hsh:w.shape? b=some (101,2):=by simp[World.shape?,h]
 clear h
 go_enter Tryz.func110,Tryz.ntmps110
 go_wp2
 rw[Lib.run_to_unsafe w ⟨b,0,none⟩ Tryz.underlying99 Tryz.underlying185 hj (by rw[hjs];decide) hsh (Nat.zero_lt_succ 1)]
 simp only[Result.andThen]
 rw[Oper.upon_value]
 go_wp2
 rw[run_callFunc_extern Tryz.func145 (by kernel_rfl) (by kernel_rfl) (by kernel_rfl) (e:=Extern.AbiNoEscape.same) (by kernel_rfl)]
 rw[Lib.run_noEscape]
 simp only[Result.andThen]
 rw[Oper.upon_value]
 go_wp2
 rw[Lib.run_from_unsafe w ⟨b,0,none⟩ Tryz.underlying185 Tryz.underlying99 hj hsh liesBld]
 simp only[Result.andThen]
 rw[Oper.upon_value]
 go_wp2
 refine bodyPost_end (results_none rfl _ _ _) rfl ⟨rfl,rfl⟩
structure HB (b:Nat) (l:List UInt8) (w:World):Prop where
 ex:∃p v,w.heap[b]? = some (.cells #[p,v] 101 (0,0))∧(p=.pointer none∨p=.pointer (some ⟨b,0,none⟩))∧w.ownsRow (b+1) 5 1 v l.length (bvals l)∧(l=[]→v=.slice none 0 0)
def Kp (b:Nat) (w w':World):Prop:=∀k c t fr,w.heap[k]? = some (.cells c t fr)→t≠5→k≠b→w'.heap[k]? = w.heap[k]?
theorem strCells_bvals (s:ByteArray):strCells s=bvals s.data.toList:=by
 rfl
set_option maxRecDepth 100000 in
set_option maxHeartbeats 1000000 in
theorem wstr (b:Nat) (l:List UInt8) (s:ByteArray) (w:World) (h:HB b l w) (hl:l.length+s.size≤100000000) :
  Calls Tryz.prog 47 #[.pointer (some ⟨b,0,none⟩),.string s] w fun e w'=>e=.returned (.tuple #[.int .i64 s.size,.nilIface])∧HB b (l++s.data.toList) w'∧Below b w w'∧Kp b w w':=by
 obtain ⟨p,v,h1,h2,h3,h4⟩:=h.ex
 have hlt:b<w.heap.size:=(Array.getElem?_eq_some_iff.1 h1).1
 have hck:Calls Tryz.prog 110 #[.pointer (some ⟨b,0,none⟩)] w fun e w'=>e=.returned (.tuple #[])∧w'.heap[b]? = some (.cells #[.pointer (some ⟨b,0,none⟩),v] 101 (0,0))∧w'.ownsRow (b+1) 5 1 v l.length (bvals l)∧Below b w w'∧b<w'.heap.size∧Kp b w w':=by
  rcases h2 with rfl|rfl
  ·refine (ck_fresh b v w h1).mono ?_
   rintro e w' ⟨rfl,rfl⟩
   refine ⟨rfl,?_,?_,(Below.refl b w).setCell (p:=⟨b,0,none⟩) (Nat.le_refl _) _,by simpa [World.setCell] using hlt,fun k c t fr hk ht hne=>heap_setCell_other _ _ _ _ hne⟩
   ·simp[World.setCell,Array.getElem?_modify,h1]
   ·refine h3.kept (row:=some b) ⟨rfl,rfl,rfl,by simp[World.setCell],fun k _ hk=>Below.heap_setCell _ _ _ _ (fun e=>hk (by simp[e]))⟩ (Or.inr ?_)
    exact (row_ne h3 h1 (by decide)).symm
  ·refine (ck_used b v w h1).mono ?_
   rintro e w' ⟨rfl,rfl⟩
   exact ⟨rfl,h1,h3,Below.refl b _,hlt,fun k c t fr hk ht hne=>rfl⟩
 have HC:=Lib.hid hck
 have HX:=Lib.hid h4
 clear hck h1 h2 h3 h h4
 obtain ⟨iu,hiu,hz1,hz2,hz3⟩:=info_parts infoU8
 go_enter Tryz.func47,Tryz.ntmps47
 go_wp2_with fail
 refine HC.out.mono ?_
 rintro e W ⟨rfl,h1,h2,h3,h4,hkp⟩
 clear HC
 replace hkp:=Lib.hid hkp
 have c1:W.cell? ⟨b,1,none⟩=some v:=by rw[Lib.cell_of_heap h1];rfl
 replace h1:=Lib.hid h1
 replace h3:=Lib.hid h3
 have hml:l.length+s.size≤maxLen:=by unfold maxLen;omega
 go_wp2_with (at_builtin;go_loud (refine Lib.wpList_append_own_string _ rfl _ _ 57 9 rfl (b+1) 5 iu Tryz.underlying57 Tryz.underlying9 hiu hz1 hz2 hz3 _ _ _ rfl h2 s rfl hml (by omega) (by omega) ?_))
 intro v' W2 hown hgr hnil
 have hbl:Below (b+1) W W2:=(Below.refl (b+1) W).grown hgr (by omega) fun k hk=>(h2.lt k hk).1
 have h12:W2.heap[b]? = some (.cells #[.pointer (some ⟨b,0,none⟩),v] 101 (0,0)):=by rw[hbl.block b (by omega)];exact h1.out
 have d1:W2.cell? ⟨b,1,none⟩=some v:=by rw[Lib.cell_of_heap h12];rfl
 have f1:W2.frozen? ⟨b,1,none⟩=false:=Lib.frozen_of_heap h12 1
 obtain ⟨so,sc,hv⟩:=own_mem hown
 have hlen:(l++s.data.toList).length=l.length+s.size:=by rw[List.length_append,Array.length_toList];rfl
 have HN:Hid (l++s.data.toList=[]→v'=.slice none 0 0):=Lib.hid fun e=>by
  have e1:l=[]:=(List.append_eq_nil_iff.1 e).1
  have e2:s.data.toList=[]:=(List.append_eq_nil_iff.1 e).2
  refine hnil.2 ⟨?_,?_⟩
  ·rcases h2.2 with ⟨hvv,_⟩|⟨g,cap,cur,hvv,q1,q2,q3,q4,q5,q6⟩
   ·exact hvv
   ·exact absurd (HX.out e1) (by rw[hvv];simp)
  ·have:=congrArg List.length e2;simpa using this
 subst hv
 have HB2:Hid (HB b (l++s.data.toList) (W2.setCell ⟨b,1,none⟩ (.slice so (l.length+s.size) sc))):=by
  refine Lib.hid ⟨_,.slice so (l.length+s.size) sc,?_,.inr rfl,?_,HN.out⟩
  ·simp[World.setCell,Array.getElem?_modify,h12]
  ·rw[bvals_append,hlen,←strCells_bvals]
   refine hown.kept (row:=some b) ⟨rfl,rfl,rfl,by simp[World.setCell],fun k _ hk=>Below.heap_setCell _ _ _ _ (fun e=>hk (by simp[e]))⟩ (Or.inr ?_)
   exact (row_ne hown h12 (by decide)).symm
 have HW:Hid (Below b w (W2.setCell ⟨b,1,none⟩ (.slice so (l.length+s.size) sc))):=by
  refine Lib.hid ((h3.out.trans ?_).setCell (p:=⟨b,1,none⟩) (Nat.le_refl _) _)
  exact ⟨hbl.os,hbl.tape,hbl.output,hbl.size,fun k hk=>hbl.block k (by omega)⟩
 have HK:Hid (Kp b w (W2.setCell ⟨b,1,none⟩ (.slice so (l.length+s.size) sc))):=by
  refine Lib.hid fun k c t fr hk ht hne=>?_
  have e1:=hkp.out k c t fr hk ht hne
  have hk1:W.heap[k]? = some (.cells c t fr):=e1.trans hk
  rw[heap_setCell_other _ _ _ _ hne,hgr.block k (Array.getElem?_eq_some_iff.1 hk1).1 (fun e=>row_ne h2 hk1 ht e),e1]
 clear hown h12 hbl h1 h3 hgr hnil HN HX h2 hkp
 go_wp2
 go_ret2
 exact ⟨rfl,HB2.out,HW.out,HK.out⟩
structure HF (b:Nat) (l:List UInt8) (w:World):Prop where
 ex:∃p v,w.heap[b]? = some (.cells #[p,v] 101 (0,0))∧((l=[]∧v=.slice none 0 0)∨(l≠[]∧∃g cap cur fr,v=.slice (some ⟨g,0,none⟩) l.length cap∧b+1≤g∧w.heap[g]? = some (.cells cur 5 fr)∧l.length≤cap∧cap≤maxLen∧cur.size=cap∧cur.toList.take l.length=bvals l))
theorem HB.hf {b l w} (h:HB b l w):HF b l w:=by
 obtain ⟨p,v,h1,h2,h3,h4⟩:=h.ex
 refine ⟨p,v,h1,?_⟩
 by_cases h0:l=[]
 ·exact .inl ⟨h0,h4 h0⟩
 ·refine .inr ⟨h0,?_⟩
  rcases h3.2 with ⟨_,hz⟩|⟨g,cap,cur,r1,r2,r3,r4,r5,r6,r7⟩
  ·exact absurd (List.length_eq_zero_iff.1 hz) h0
  ·exact ⟨g,cap,cur,(0,0),r1,r2,r3,r4,r5,by omega,by simpa using r7⟩
theorem cellsU8:Tryz.prog.cellsOf 5=1:=by kernel_rfl
theorem freeze_keeps {w:World} {g n:Nat} {cur:Array Value} {t fr} (hg:w.heap[g]? = some (.cells cur t fr)):∃fr',(w.freeze ⟨g,0,none⟩ n).heap[g]? = some (.cells cur t fr'):=by
 unfold World.freeze
 split
 ·exact ⟨fr,hg⟩
 ·simp only[Array.getElem?_modify]
  simp[hg]
theorem freeze_other {w:World} {g n k:Nat} (h:k≠g):(w.freeze ⟨g,0,none⟩ n).heap[k]? = w.heap[k]?:=by
 unfold World.freeze
 split
 ·rfl
 ·simp only[Array.getElem?_modify]
  simp[Ne.symm h]
set_option maxRecDepth 100000 in
set_option maxHeartbeats 1000000 in
theorem bstring (b:Nat) (l:List UInt8) (w:World) (h:HF b l w) :
  Calls Tryz.prog 54 #[.pointer (some ⟨b,0,none⟩)] w fun e w'=>e=.returned (.string ⟨l.toArray⟩)∧HF b l w'∧Below (b+1) w w'∧Kp b w w':=by
 obtain ⟨p,v,h1,h2|⟨h0,g,cap,cur,fr,rfl,r2,r3,r4,r5,r6,r7⟩⟩:=h.ex
 ·obtain ⟨rfl,rfl⟩:=h2
  have hf:HF b [] w.drew:=⟨h.ex⟩
  have c1:w.drew.cell? ⟨b,1,none⟩=some (.slice none 0 0):=by
   have:w.drew.heap[b]? = some (.cells #[p,.slice none 0 0] 101 (0,0)):=h1
   rw[Lib.cell_of_heap this];rfl
  have hSD:(Builtin.unsafeSliceData_ #[57] 171 #[.slice none 0 0]).run Tryz.prog w.drew=.ok (.pointer none) w.drew:=rfl
  have hUS:(Builtin.unsafeString_ #[171,3] 9 #[.pointer none,.int .i64 0]).run Tryz.prog w.drew=.ok (.string .empty) w.drew:=Lib.run_unsafeString_none _ _ _ _ _
  clear h h1
  go_enter Tryz.func54,Tryz.ntmps54
  go_wp2
  go_region
  all_goals (go_wp2;go_ret;exact ⟨rfl,hf,Below.drew (Below.refl _ w),fun k c t fr hk ht hne=>rfl⟩)
 ·have hl:0<l.length:=by cases l with|nil=>exact absurd rfl h0|cons=>simp
  have c1:w.drew.cell? ⟨b,1,none⟩=some (.slice (some ⟨g,0,none⟩) l.length cap):=by
   have:w.drew.heap[b]? = some (.cells #[p,.slice (some ⟨g,0,none⟩) l.length cap] 101 (0,0)):=h1
   rw[Lib.cell_of_heap this];rfl
  have hSD:(Builtin.unsafeSliceData_ #[57] 171 #[.slice (some ⟨g,0,none⟩) l.length cap]).run Tryz.prog w.drew=.ok (.pointer (some ⟨g,0,none⟩)) w.drew:=
   Lib.run_unsafeSliceData_row _ _ _ _ _ _ (by omega)
  have hUS:(Builtin.unsafeString_ #[171,3] 9 #[.pointer (some ⟨g,0,none⟩),.int .i64 l.length]).run Tryz.prog w.drew=.ok (.string ⟨l.toArray⟩) (w.drew.freeze ⟨g,0,none⟩ l.length):=by
   refine Lib.run_unsafeString_row w.drew 171 3 9 5 Tryz.underlying171 cellsU8 g cur.size (by have hg':w.drew.heap[g]? = some (.cells cur 5 fr):=r3;simp[World.shape?,hg']) l h0 (by omega) (by unfold maxLen at r5;omega) ?_
   intro j x hx
   have hj:j<l.length:=(List.getElem?_eq_some_iff.1 hx).1
   have hg':w.drew.heap[g]? = some (.cells cur 5 fr):=r3
   have e:(⟨g,0,none⟩:Addr).add j=⟨g,j,none⟩:=by unfold Addr.add;split<;>simp_all
   rw[e,Lib.cell_of_heap hg']
   have h3:(cur.toList.take l.length)[j]? = some (.int .u8 x.toNat):=by rw[r7];simp[bvals,hx]
   rw[List.getElem?_take,if_pos hj,Array.getElem?_toList] at h3
   exact h3
  have hf:HF b l (w.drew.freeze ⟨g,0,none⟩ l.length):=by
   obtain ⟨fr',h5⟩:=freeze_keeps (w:=w.drew) (n:=l.length) r3
   refine ⟨p,_,?_,.inr ⟨h0,g,cap,cur,fr',rfl,r2,h5,r4,r5,r6,r7⟩⟩
   rw[freeze_other (by omega)];exact h1
  have HK:Hid (Kp b w (w.drew.freeze ⟨g,0,none⟩ l.length)):=Lib.hid fun k c t fr' hk ht hne=>by
   rw[freeze_other (fun e=>by subst e;rw[r3] at hk;injection hk with hk;injection hk with _ hk _;exact ht hk.symm)];rfl
  clear h h1 r3 r4 r5 r6 r7
  go_enter Tryz.func54,Tryz.ntmps54
  go_wp2
  go_region
  all_goals (go_wp2;go_ret;exact ⟨rfl,hf,Lib.below_freeze (Below.drew (Below.refl _ w)) (p:=⟨g,0,none⟩) r2 _,HK.out⟩)
end Go.Proofs.YtpdckpifhniioaaGreat.Oct
end
section
set_option linter.unusedVariables false
namespace Go.Proofs.YtpdckpifhniioaaGreat
open Go.RowKit
namespace Ab
theorem lk_one {k:Nat} {v:Blk} {i:Nat} {w:Blk} (h:lk [(k,v)] i=some w):i=k∧w=v:=by
 have:=lk_mem h
 simp only[List.mem_singleton,Prod.mk.injEq] at this
 exact this
end Ab
end Go.Proofs.YtpdckpifhniioaaGreat
end
section
set_option linter.unusedVariables false
set_option linter.unusedSimpArgs false
namespace Go.Proofs.YtpdckpifhniioaaGreat
open Go.RowKit
namespace Ab
end Ab
end Go.Proofs.YtpdckpifhniioaaGreat
end
section
set_option linter.unusedVariables false
set_option linter.unusedSimpArgs false
namespace Go.Proofs.YtpdckpifhniioaaGreat
open Go.RowKit
namespace Ab
theorem ren_plain {σ:Nat→Nat}:∀ {l:List Leaf},Plain l→l.map (Leaf.ren σ)=l
 |[],_=>rfl
 |x::l,h=>by
  obtain ⟨v,rfl⟩:=h x (by simp)
  rw[List.map_cons,ren_plain (fun y hy=>h y (by simp[hy]))]
  rfl
def up2 (id bf n:Nat):Nat→Nat
 |0=>id
 |1=>bf
 |k+2=>n+k
theorem CallOKd.at2 {P:Program} {f:Nat} {dc:List (Nat×Nat×Bool)} {args:List SV} {H:List (Nat×Blk)} {v:SV} {wr:List (Nat×Blk)} {nw:Nat} (h:CallOKd P f dc args H 2 v wr nw) (id bf n:Nat) (hi:id<n) (hb:bf<n) (hne:id≠bf) :
  CallOKd P f (dc.map fun p=>(up2 id bf n p.1,p.2)) (args.map (SV.ren (up2 id bf n))) (H.map fun p=>(up2 id bf n p.1,p.2.ren (up2 id bf n))) n (v.ren (up2 id bf n)) (wr.map fun p=>(up2 id bf n p.1,p.2.ren (up2 id bf n))) nw:=
 CallOKd.ren h (up2 id bf n) n (fun i hi'=>by
  match i,hi' with
  |0,_=>exact hi
  |1,_=>exact hb) (fun i hi'=>by
  match i,hi' with
  |k+2,_=>show n+k=n+(k+2-2);omega) (fun i j h1 h2 e=>by
  match i,j,h1,h2,e with
  |0,0,_,_,_=>rfl
  |1,1,_,_,_=>rfl
  |0,1,_,_,e=>exact absurd e hne
  |1,0,_,_,e=>exact absurd e.symm hne)
theorem sbytes_len (s:ByteArray):(sbytes s).length=s.size:=by unfold sbytes;rw[List.length_map,Array.length_toList];rfl
theorem allB_sbytes (s:ByteArray):AllB (sbytes s):=fun x hx=>by
 simp only[sbytes,List.mem_map] at hx
 obtain ⟨b,_,rfl⟩:=hx
 exact ⟨b,rfl⟩
theorem strL_sbytes (s:ByteArray):strL (sbytes s)=s:=by
 unfold strL sbytes
 rw[List.map_map]
 have:(lfB∘fun b:UInt8=>Leaf.v (.int .u8 (b.toNat:Int)))=id:=funext fun b=>by simp[lfB]
 rw[this,List.map_id]
def putB (k m:Int):ByteArray:=⟨(Oct.M.be (Oct.sz m) (Oct.u64 k)).toArray⟩
def varB (k:Int):ByteArray:=⟨(Oct.M.leb (Oct.u64 k)).toArray⟩
def sumI (s:ByteArray):Int:=(Oct.M.sum s.data.toList:Nat)
def txtB (s:ByteArray):ByteArray:=⟨(Oct.txt s).toArray⟩
theorem putB_sz (k m:Int):(putB k m).size=Oct.sz m:=Oct.M.be_length _ _
theorem sz2:Oct.sz 2=2:=rfl
theorem sz4:Oct.sz 4=4:=rfl
theorem varB_le (k:Int):(varB k).size≤10:=Oct.M.leb_le _ (Oct.u64_lt _)
theorem blobT_le (t:Nat→UInt8):(blobT t).size≤257:=by
 unfold blobT
 cases solT t
 ·cases h:decide (((codT t).size:Int)<257)
  ·show (⟨#[1]⟩++bytesT t:ByteArray).size≤257
   rw[ByteArray.size_append,bytesT_len];exact Nat.le_refl _
  ·have:=of_decide_eq_true h
   show (codT t).size≤257
   omega
 ·show 5≤257;decide
theorem blobT_pos (t:Nat→UInt8):1≤(blobT t).size:=by
 unfold blobT
 cases solT t
 ·cases h:decide (((codT t).size:Int)<257)
  ·show 1≤(⟨#[1]⟩++bytesT t:ByteArray).size
   rw[ByteArray.size_append,bytesT_len];decide
  ·show 1≤(codT t).size
   unfold codT
   rw[ByteArray.size_append]
   have e:(⟨#[2,UInt8.ofNat (bestT t)]⟩:ByteArray).size=2:=rfl
   omega
 ·show 1≤5;decide
theorem txtB_le (s:ByteArray) (h:s.size≤1000000000):(txtB s).size≤10+s.size:=by
 show (Oct.txt s).length≤_
 unfold Oct.txt
 rw[List.length_append,Array.length_toList]
 have:=Oct.M.leb_le s.size (by omega)
 exact Nat.add_le_add_right this _
theorem sumI_bd (s:ByteArray):0≤sumI s∧sumI s≤4294967295:=by
 unfold sumI Oct.M.sum
 omega
theorem good_xy {l:List TA} (hg:Good l) {k:Nat} (hk:k<l.length) : -8192≤(at' l k).X∧(at' l k).X≤8191∧-8192≤(at' l k).Y∧(at' l k).Y≤8191:=of_decide_eq_true (hg.inn k hk)
attribute [local irreducible] solT codT bestT blobT bytesT tl sameT Prd.fw Cod.M.enc meanB Oct.M.sum
theorem enters12:Enters Tryz.prog 12:=fun args w=>by go_simp
end Ab
end Go.Proofs.YtpdckpifhniioaaGreat
end
