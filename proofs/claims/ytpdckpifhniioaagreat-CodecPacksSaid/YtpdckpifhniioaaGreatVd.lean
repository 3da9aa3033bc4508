/- Part 4 of what CodecPacks rests on. -/
import Derived.Deep.QuietTactic
import Derived.BigQuiet
import Derived.Lib.QuoteBits
import Derived.Laws.StructEq
import Derived.DeepKeys
import Derived.Test.YtpdckpifhniioaaGreatVb
import Derived.Test.YtpdckpifhniioaaGreatVc
section
set_option linter.unusedVariables false
set_option linter.unusedSimpArgs false
namespace Go.Proofs.YtpdckpifhniioaaGreat.Oct
open Go.RowKit
open Go.Proofs.YtpdckpifhniioaaGreat
def Rd (T:TypeId) (b:Nat) (s:ByteArray) (p:Nat) (f:Bool) (w:World):Prop:=∃zs:List Value,w.heap[b]? = some (.cells (([.string s,.int .i64 (p:Int),.bool f]:List Value)++zs).toArray T (0,0))
theorem Rd.c0 {T b s p f w} (h:Rd T b s p f w):w.cell? ⟨b,0,none⟩=some (.string s):=by obtain ⟨zs,h⟩:=h;rw[cell_of_row w b 0 _ _ _ h];simp
theorem Rd.c1 {T b s p f w} (h:Rd T b s p f w):w.cell? ⟨b,1,none⟩=some (.int .i64 (p:Int)):=by obtain ⟨zs,h⟩:=h;rw[cell_of_row w b 1 _ _ _ h];simp
theorem Rd.c2 {T b s p f w} (h:Rd T b s p f w):w.cell? ⟨b,2,none⟩=some (.bool f):=by obtain ⟨zs,h⟩:=h;rw[cell_of_row w b 2 _ _ _ h];simp
theorem Rd.fz {T b s p f w} (h:Rd T b s p f w) (j:Nat):w.frozen? ⟨b,j,none⟩=false:=by obtain ⟨zs,h⟩:=h;exact frozen_of_row w b j _ _ h
theorem Rd.put1 {T b s p f w} (h:Rd T b s p f w) (q:Nat):Rd T b s q f (w.setCell ⟨b,1,none⟩ (.int .i64 (q:Int))):=by
 obtain ⟨zs,h⟩:=h;refine ⟨zs,?_⟩;rw[heap_setCell_same _ _ _ _ _ _ h];simp
theorem Rd.put2 {T b s p f w} (h:Rd T b s p f w) (g:Bool):Rd T b s p g (w.setCell ⟨b,2,none⟩ (.bool g)):=by
 obtain ⟨zs,h⟩:=h;refine ⟨zs,?_⟩;rw[heap_setCell_same _ _ _ _ _ _ h];simp
theorem grown_refl (b:Nat) (w:World):w.grownBy w (some b):=⟨rfl,rfl,rfl,Nat.le_refl _,fun _ _ _=>rfl⟩
theorem grown_trans {b:Nat} {w w1 w2:World} (h:w.grownBy w1 (some b)) (k:w1.grownBy w2 (some b)):w.grownBy w2 (some b):=
 ⟨k.os.trans h.os,k.tape.trans h.tape,k.output.trans h.output,Nat.le_trans h.size k.size,fun i hi hn=>(k.block i (Nat.lt_of_lt_of_le hi h.size) hn).trans (h.block i hi hn)⟩
theorem grown_set {b:Nat} {w w1:World} (h:w.grownBy w1 (some b)) (j:Nat) (v:Value):w.grownBy (w1.setCell ⟨b,j,none⟩ v) (some b):=
 ⟨h.os,h.tape,h.output,by simpa [World.setCell] using h.size,fun i hi hn=>by rw[heap_setCell_other _ _ _ _ (by intro e;exact hn (by rw[e]))];exact h.block i hi hn⟩
theorem grown_drewN {b n:Nat} {w w1:World} (h:w.grownBy w1 (some b)):w.grownBy (w1.drewN n) (some b):=⟨h.os,h.tape,h.output,h.size,h.block⟩
theorem grown_below {b:Nat} {w w1:World} (h:Below w.heap.size w w1):w.grownBy w1 (some b):=⟨h.os,h.tape,h.output,h.size,fun i hi _=>h.block i hi⟩
theorem read_any (s:ByteArray) (w:World) :
  Calls Tryz.prog 58 #[.string s] w fun e w'=>e=.returned (.pointer (some ⟨w.heap.size,0,none⟩))∧w.alloc (.cells #[.string s,.int .i64 0,.bool false] 174)=w':=by
 go_enter Tryz.func58,Tryz.ntmps58
 go_wp2_with fail
 go_ret
 exact ⟨rfl,rfl⟩
theorem failed_any (b:Nat) (s:ByteArray) (p:Nat) (f:Bool) (w:World) (h:Rd 174 b s p f w) :
  Calls Tryz.prog 61 #[.pointer (some ⟨b,0,none⟩)] w fun e w'=>e=.returned (.bool f)∧w=w':=by
 have h2:=h.c2
 go_enter Tryz.func61,Tryz.ntmps61
 go_wp2_with fail
 go_ret
 exact ⟨rfl,rfl⟩
theorem left_any (b:Nat) (s:ByteArray) (p:Nat) (f:Bool) (w:World) (h:Rd 174 b s p f w) (hs:s.size≤1000000000000000000) (hp:p≤s.size) :
  Calls Tryz.prog 63 #[.pointer (some ⟨b,0,none⟩)] w fun e w'=>e=.returned (.int .i64 ((s.size:Int)-p))∧∃n,w'=w.drewN n:=by
 have h0:=h.c0
 have h1:=h.c1
 go_enter Tryz.func63,Tryz.ntmps63
 go_wp2_with fail
 go_quiet (fail)
 go_wp2_with fail
 go_ret
 exact ⟨rfl,_,rfl⟩
theorem Rd.drewN {T b s p f w} (h:Rd T b s p f w) (n:Nat):Rd T b s p f (w.drewN n):=h
theorem take_no (b:Nat) (s:ByteArray) (p:Nat) (f:Bool) (w:World) (n:Int) (h:Rd 174 b s p f w) (hs:s.size≤1000000000000000000) (hp:p≤s.size)
  (hn:f=true∨n<0∨(s.size:Int)-p<n) :
  Calls Tryz.prog 64 #[.pointer (some ⟨b,0,none⟩),.int .i64 n] w fun e w'=>e=.returned (.string ⟨#[]⟩)∧w.grownBy w' (some b)∧Rd 174 b s p true w':=by
 have h2:=h.c2
 have hf:=h.fz 2
 cases f with
 |true=>
  clear hn
  go_enter Tryz.func64,Tryz.ntmps64
  go_wp2_with fail
  go_ret
  exact ⟨rfl,grown_set (grown_refl _ _) _ _,h.put2 _⟩
 |false=>
  by_cases h0:n<0
  ·clear hn
   go_enter Tryz.func64,Tryz.ntmps64
   go_wp2_with fail
   go_ret
   exact ⟨rfl,grown_set (grown_refl _ _) _ _,h.put2 _⟩
  ·have h3:(s.size:Int)-p<n:=by rcases hn with h|h|h<;>first|omega|simp at h
   clear hn
   go_enter Tryz.func64,Tryz.ntmps64
   go_wp2_with fail
   refine (left_any b s p false _ h hs hp).mono ?_
   rintro e w1 ⟨rfl,nq,hw⟩
   subst hw
   have h2':(w.drewN nq).cell? ⟨b,2,none⟩=some (.bool false):=h2
   have hf':(w.drewN nq).frozen? ⟨b,2,none⟩=false:=hf
   go_wp2_with fail
   go_ret
   exact ⟨rfl,grown_set (grown_drewN (grown_refl _ _)) _ _,(h.drewN nq).put2 _⟩
set_option maxHeartbeats 400000 in
theorem take_yes (b:Nat) (s:ByteArray) (p:Nat) (w:World) (n:Nat) (h:Rd 174 b s p false w) (hs:s.size≤1000000000000000000) (hp:p+n≤s.size) :
  Calls Tryz.prog 64 #[.pointer (some ⟨b,0,none⟩),.int .i64 n] w fun e w'=>e=.returned (.string (s.extract p (p+n)))∧w.grownBy w' (some b)∧Rd 174 b s (p+n) false w':=by
 have h2:=h.c2
 have h3:¬((s.size:Int)-p<(n:Int)):=by omega
 go_enter Tryz.func64,Tryz.ntmps64
 go_wp2_with fail
 refine (left_any b s p false _ h hs (by omega)).mono ?_
 rintro e w1 ⟨rfl,nq,hw⟩
 subst hw
 have h0':(w.drewN nq).cell? ⟨b,0,none⟩=some (.string s):=h.c0
 have h1':(w.drewN nq).cell? ⟨b,1,none⟩=some (.int .i64 (p:Int)):=h.c1
 have hf':(w.drewN nq).frozen? ⟨b,1,none⟩=false:=h.fz 1
 go_wp2_with fail
 go_quiet (fail)
 go_wp2_with fail
 go_ret
 exact ⟨rfl,grown_drewN (grown_set (grown_drewN (grown_refl _ _)) _ _),(Rd.put1 (Rd.drewN h _) (p+n)).drewN _⟩
def takeRes (s:ByteArray) (p:Nat) (f:Bool) (n:Int):ByteArray×Nat×Bool:=
 if f=true∨n<0∨(s.size:Int)-p<n then (⟨#[]⟩,p,true) else (s.extract p (p+n.toNat),p+n.toNat,false)
theorem take_any (b:Nat) (s:ByteArray) (p:Nat) (f:Bool) (w:World) (n:Int) (h:Rd 174 b s p f w) (hs:s.size≤1000000000000000000) (hp:p≤s.size) :
  Calls Tryz.prog 64 #[.pointer (some ⟨b,0,none⟩),.int .i64 n] w fun e w'=>e=.returned (.string (takeRes s p f n).1)∧w.grownBy w' (some b)∧Rd 174 b s (takeRes s p f n).2.1 (takeRes s p f n).2.2 w':=by
 by_cases hn:f=true∨n<0∨(s.size:Int)-p<n
 ·have e:takeRes s p f n=(⟨#[]⟩,p,true):=by unfold takeRes;rw[if_pos hn]
  rw[e]
  exact take_no b s p f w n h hs hp hn
 ·have e:takeRes s p f n=(s.extract p (p+n.toNat),p+n.toNat,false):=by unfold takeRes;rw[if_neg hn]
  rw[e]
  have hf:f=false:=by cases f<;>simp_all
  subst hf
  obtain ⟨m,rfl⟩:=Int.eq_ofNat_of_zero_le (show 0≤n by omega)
  rw[Int.toNat_natCast]
  exact take_yes b s p w m h hs (by omega)
namespace M
def dec:Nat→Nat→List UInt8→Option (Nat×Nat)
 |_,_,[]=>none
 |i,u,b::l=>
  if 10≤i then none
  else if 128≤b.toNat then dec (i+1) (u+b.toNat % 128*128 ^ i) l
  else if (0<i∧b.toNat=0)∨(i=9∧1<b.toNat) then none
  else some (u+b.toNat*128 ^ i,i+1)
theorem dec_ten (i u:Nat) (l:List UInt8) (h:10≤i):dec i u l=none:=by
 cases l with
 |nil=>rfl
 |cons b l=>rw[dec,if_pos h]
theorem dec_more (i u:Nat) (b:UInt8) (l:List UInt8) (h:i<10) (hb:128≤b.toNat):dec i u (b::l)=dec (i+1) (u+b.toNat % 128*128 ^ i) l:=by
 rw[dec,if_neg (by omega),if_pos hb]
theorem dec_bad (i u:Nat) (b:UInt8) (l:List UInt8) (h:i<10) (hb:b.toNat<128) (hz:(0<i∧b.toNat=0)∨(i=9∧1<b.toNat)):dec i u (b::l)=none:=by
 rw[dec,if_neg (by omega),if_neg (by omega),if_pos hz]
theorem dec_good (i u:Nat) (b:UInt8) (l:List UInt8) (h:i<10) (hb:b.toNat<128) (hz:¬((0<i∧b.toNat=0)∨(i=9∧1<b.toNat))):dec i u (b::l)=some (u+b.toNat*128 ^ i,i+1):=by
 rw[dec,if_neg (by omega),if_neg (by omega),if_neg hz]
theorem pow9:(128:Nat) ^ 9=9223372036854775808:=by decide
theorem pow_le9 (i:Nat) (h:i≤9):(128:Nat) ^ i≤9223372036854775808:=by
 rw[←pow9];exact Nat.pow_le_pow_right (by omega) h
theorem pow_pos' (i:Nat):0<(128:Nat) ^ i:=Nat.pow_pos (by omega)
theorem dec_leb (r:Nat):∀(i u:Nat) (rest:List UInt8),i+(leb r).length≤10→(i=0∨r≠0)→r*128 ^ i<18446744073709551616→
  dec i u (leb r++rest)=some (u+r*128 ^ i,i+(leb r).length):=by
 induction r using Nat.strongRecOn with
 |_ r ih=>
  intro i u rest hl h0 hb
  have hp:=leb_pos r
  by_cases h:r<128
  ·rw[leb_small r h,List.cons_append,List.nil_append]
   have hr:(UInt8.ofNat r).toNat=r:=by simp;omega
   rw[dec_good i u _ rest (by omega) (by omega)]
   ·rw[hr];rfl
   ·rw[hr]
    rintro (⟨h1,h2⟩|⟨h1,h2⟩)
    ·omega
    ·subst h1;rw[pow9] at hb;omega
  ·have hll:(leb r).length=(leb (r / 128)).length+1:=by rw[leb_large r h];rfl
   have hr:(UInt8.ofNat (r % 128+128)).toNat=r % 128+128:=by simp;omega
   rw[hll]
   rw[leb_large r h,List.cons_append,dec_more i u _ _ (by omega) (by omega),hr]
   have e:(r / 128)*128 ^ (i+1)=(r / 128*128)*128 ^ i:=by rw[Nat.pow_succ];rw[Nat.mul_assoc,Nat.mul_comm (128 ^ i) 128]
   have e2:(r % 128+128) % 128=r % 128:=by omega
   rw[e2,ih (r / 128) (by omega) (i+1) _ rest (by omega) (by omega) (by rw[e];exact Nat.lt_of_le_of_lt (Nat.mul_le_mul_right _ (by omega)) hb),e]
   have e3:u+r % 128*128 ^ i+r / 128*128*128 ^ i=u+r*128 ^ i:=by
    rw[Nat.add_assoc,←Nat.add_mul];congr 2;omega
   rw[e3]
   congr 2;omega
theorem dec_inv:∀(l:List UInt8) (i u v n:Nat),dec i u l=some (v,n)→
  ∃r rest,l=leb r++rest∧v=u+r*128 ^ i∧n=i+(leb r).length∧(i=0∨r≠0)∧i+(leb r).length≤10∧r*128 ^ i<18446744073709551616
 |[],i,u,v,n,h=>by simp[dec] at h
 |b::l,i,u,v,n,h=>by
  by_cases hi:10≤i
  ·rw[dec_ten _ _ _ hi] at h;simp at h
  ·by_cases hb:128≤b.toNat
   ·rw[dec_more i u b l (by omega) hb] at h
    obtain ⟨r,rest,h1,h2,h3,h4,h5,h6⟩:=dec_inv l (i+1) _ v n h
    have hr:r≠0:=by omega
    have hbl:=b.toNat_lt
    have e1:(b.toNat % 128+128*r) % 128=b.toNat % 128:=by omega
    have e2:(b.toNat % 128+128*r) / 128=r:=by omega
    have hL:leb (b.toNat % 128+128*r)=b::leb r:=by
     rw[leb_large _ (by omega),e1,e2]
     congr 1
     apply UInt8.toNat_inj.1
     simp;omega
    have e3:(b.toNat % 128+128*r)*128 ^ i=b.toNat % 128*128 ^ i+r*128 ^ (i+1):=by
     rw[Nat.add_mul,Nat.pow_succ];congr 1;rw[Nat.mul_comm 128 r,Nat.mul_assoc,Nat.mul_comm 128]
    refine ⟨b.toNat % 128+128*r,rest,by rw[hL,h1];rfl,by rw[h2,e3];omega,by rw[h3,hL,List.length_cons];omega,by omega,by rw[hL,List.length_cons];omega,?_⟩
    have hlast:r*128 ^ (i+1)<18446744073709551616:=h6
    rw[e3]
    have hp:=pow_le9 i (by omega)
    have h9:i+1≤9:=by have:=leb_pos r;omega
    have hd:∃m,18446744073709551616=m*128 ^ (i+1):=by
     have:i+1=1∨i+1=2∨i+1=3∨i+1=4∨i+1=5∨i+1=6∨i+1=7∨i+1=8∨i+1=9:=by omega
     rcases this with e|e|e|e|e|e|e|e|e<;>rw[e]
     ·exact ⟨144115188075855872,by decide⟩
     ·exact ⟨1125899906842624,by decide⟩
     ·exact ⟨8796093022208,by decide⟩
     ·exact ⟨68719476736,by decide⟩
     ·exact ⟨536870912,by decide⟩
     ·exact ⟨4194304,by decide⟩
     ·exact ⟨32768,by decide⟩
     ·exact ⟨256,by decide⟩
     ·exact ⟨2,by decide⟩
    obtain ⟨m,hm⟩:=hd
    have hrm:r<m:=by
     rw[hm] at hlast
     exact Nat.lt_of_mul_lt_mul_right hlast
    have h7:(r+1)*128 ^ (i+1)≤18446744073709551616:=by rw[hm];exact Nat.mul_le_mul_right _ hrm
    have h8:b.toNat % 128*128 ^ i<128 ^ (i+1):=by
     rw[Nat.pow_succ,Nat.mul_comm (128 ^ i) 128]
     exact Nat.mul_lt_mul_of_pos_right (by omega) (pow_pos' i)
    rw[Nat.add_mul,Nat.one_mul] at h7
    omega
   ·by_cases hz:(0<i∧b.toNat=0)∨(i=9∧1<b.toNat)
    ·rw[dec_bad i u b l (by omega) (by omega) hz] at h;simp at h
    ·rw[dec_good i u b l (by omega) (by omega) hz] at h
     simp only[Option.some.injEq,Prod.mk.injEq] at h
     have hL:leb b.toNat=[b]:=by
      rw[leb_small _ (by omega)]
      congr 1
      apply UInt8.toNat_inj.1
      simp
     refine ⟨b.toNat,l,by rw[hL];rfl,h.1.symm,by rw[hL];exact h.2.symm,by omega,by rw[hL];simp;omega,?_⟩
     by_cases h9:i=9
     ·subst h9;rw[pow9];omega
     ·have:(128:Nat) ^ i≤128 ^ 8:=Nat.pow_le_pow_right (by omega) (by omega)
      have e8:(128:Nat) ^ 8=72057594037927936:=by decide
      rw[e8] at this
      have:=Nat.mul_le_mul (show b.toNat≤127 by omega) this
      omega
theorem dec_iff (l:List UInt8) (v n:Nat):dec 0 0 l=some (v,n)↔v<18446744073709551616∧n=(leb v).length∧∃rest,l=leb v++rest:=by
 constructor
 ·intro h
  obtain ⟨r,rest,h1,h2,h3,_,_,h6⟩:=dec_inv l 0 0 v n h
  have:v=r:=by simpa using h2
  subst this
  exact ⟨by simpa using h6,by simpa using h3,rest,h1⟩
 ·rintro ⟨h1,h2,rest,h3⟩
  have:=dec_leb v 0 0 rest (by have:=leb_le v h1;omega) (.inl rfl) (by simpa using h1)
  rw[h3,this,h2];simp
theorem dec_len (l:List UInt8) (v n:Nat) (h:dec 0 0 l=some (v,n)):1≤n∧n≤l.length∧n≤10:=by
 obtain ⟨h1,h2,rest,h3⟩:=(dec_iff l v n).1 h
 have:=leb_pos v
 have:=leb_le v h1
 rw[h3,List.length_append];omega
end M
def varRes (s:ByteArray) (p:Nat) (f:Bool):Int×Nat×Bool:=
 if f=true then (0,p,true) else
  match M.dec 0 0 (s.data.toList.drop p) with
  |none=>(0,p,true)
  |some (u,n)=>(wrap64 (u:Int),p+n,false)
theorem drop_at (s:ByteArray) (p k:Nat) (h:p+k<s.size):(s.data.toList.drop p).drop k=(s[p+k]'h)::(s.data.toList.drop p).drop (k+1):=by
 rw[List.drop_drop,List.drop_drop,List.drop_eq_getElem_cons (by simpa using h)]
 rfl
theorem and127_nat:∀x:Fin 256,(x.val &&& 127)=x.val % 128:=by decide +kernel
theorem two_pow7 (k:Nat):(2:Nat) ^ (7*k)=128 ^ k:=by rw[Nat.pow_mul]
theorem or_acc (k acc y:Nat) (B:UInt8) (hk:k≤9) (ha:acc<128 ^ k) (hy:y=acc) :
  ∃y2:Nat,bits .or .u64 (y:Int) (IntKind.u64.wrap (IntKind.u64.wrap (bits .and .u8 (B.toNat:Int) 127)*2 ^ (7*k)))=((y2:Nat):Int)∧
   (acc+B.toNat % 128*128 ^ k<18446744073709551616→y2=acc+B.toNat % 128*128 ^ k):=by
 subst hy
 have hB:=B.toNat_lt
 have h1:bits .and .u8 (B.toNat:Int) 127=((B.toNat % 128:Nat):Int):=by
  have h:=u8_and_nat B.toNat 127 hB (by omega)
  rw[show ((127:Nat):Int)=127 from rfl] at h
  rw[h]
  have:=and127_nat ⟨B.toNat,hB⟩
  simp only at this
  rw[this]
 have h2:IntKind.u64.wrap ((B.toNat % 128:Nat):Int)=((B.toNat % 128:Nat):Int):=by rw[IntKind.wrap_u64];omega
 have h3:IntKind.u64.wrap (((B.toNat % 128:Nat):Int)*2 ^ (7*k))=((B.toNat % 128*128 ^ k % 18446744073709551616:Nat):Int):=by
  rw[IntKind.wrap_u64,←two_pow7]
  simp
 have hp:=M.pow_le9 k hk
 have h4:=u64_or_nat y (B.toNat % 128*128 ^ k % 18446744073709551616) (by omega) (by omega)
 refine ⟨y ||| (B.toNat % 128*128 ^ k % 18446744073709551616),by rw[h1,h2,h3,h4],fun hlt=>?_⟩
 rw[Nat.mod_eq_of_lt (by omega)]
 have h5:=Nat.shiftLeft_add_eq_or_of_lt (show y<2 ^ (7*k) by rw[two_pow7];exact ha) (B.toNat % 128)
 rw[Nat.shiftLeft_eq,two_pow7] at h5
 rw[Nat.or_comm,←h5,Nat.add_comm]
theorem acc_lt (k acc B:Nat) (ha:acc<128 ^ k):acc+B % 128*128 ^ k<128 ^ (k+1):=by
 have h1:B % 128*128 ^ k≤127*128 ^ k:=Nat.mul_le_mul_right _ (by omega)
 rw[Nat.pow_succ];omega
theorem acc_small (k x:Nat) (hk:k≤9) (hx:x<128 ^ k):x<18446744073709551616:=by
 have:=M.pow_le9 k hk
 omega
theorem good_small (k acc B:Nat) (hk:k≤9) (ha:acc<128 ^ k) (hB:B<128) (hz:¬(k=9∧1<B)):acc+B % 128*128 ^ k<18446744073709551616:=by
 by_cases h9:k=9
 ·subst h9;rw[M.pow9] at *;omega
 ·have:=acc_lt k acc B ha
  exact acc_small (k+1) _ (by omega) this
theorem rvar_failed (b:Nat) (s:ByteArray) (p:Nat) (w:World) (h:Rd 174 b s p true w) :
  Calls Tryz.prog 125 #[.pointer (some ⟨b,0,none⟩)] w fun e w'=>e=.returned (.int .i64 0)∧w.grownBy w' (some b)∧Rd 174 b s p true w':=by
 have h2:=h.c2
 go_enter Tryz.func125,Tryz.ntmps125
 go_wp2_with fail
 go_ret
 exact ⟨rfl,grown_refl _ _,h⟩
set_option maxRecDepth 100000 in
set_option maxHeartbeats 800000 in
theorem rvar_ok (b : Nat) (s : ByteArray) (p : Nat) (w : World) (h : Rd 174 b s p false w) (hs : s.size ≤ 1000000000000000000) (hp : p ≤ s.size) :
    Calls Tryz.prog 125 #[.pointer (some ⟨b,0,none⟩)] w fun e w'=>e=.returned (.int .i64 (varRes s p false).1)∧w.grownBy w' (some b)∧Rd 174 b s (varRes s p false).2.1 (varRes s p false).2.2 w':=by
  have h2:=h.c2
  go_enter Tryz.func125,Tryz.ntmps125
  go_wp2_with fail
  refine (left_any b s p false _ h hs hp).mono ?_
  rintro e w1 ⟨rfl,nq,hw⟩
  subst hw
  obtain ⟨m,hm⟩:∃m:Nat,m=min 10 (s.size-p):=⟨_,rfl⟩
  have H0:Rd 174 b s p false (w.drewN nq):=h
  have HG:w.grownBy (w.drewN nq) (some b):=grown_drewN (grown_refl _ _)
  generalize w.drewN nq=wq at *
  clear h2
  go_wp2_with fail
  all_goals
    go_loopw [3, 17] (fun u i wr => ∃ k acc y : Nat, k ≤ 10 ∧ k ≤ s.size - p ∧ i = .int .i64 k ∧ u = .int .u64 y ∧ Hid (acc < 128 ^ k) ∧ Hid (k ≤ 9 → y = acc) ∧
        Hid (M.dec 0 0 (s.data.toList.drop p)=M.dec k acc ((s.data.toList.drop p).drop k))∧Rd 174 b s p false wr∧w.grownBy wr (some b))
      (fun _ i _=>10-(intOf i).toNat)
    case atStart=>exact ⟨0,0,0,by omega,by omega,rfl,rfl,(show 0<128 ^ 0 by decide),fun _=>rfl,rfl,H0,HG⟩
    case round=>
      clear H0 HG
      obtain ⟨k,acc,y,hk,hkl,rfl,rfl,hacc,hy,HD,hrd,hg⟩:=hrel
      have h0:=hrd.c0
      have h1:=hrd.c1
      by_cases hlt:k<s.size-p∧k<10
      · have hlt1 : p + k < s.size := by omega
        have hlt2:(p:Int)+k<s.size:=by omega
        have hlt3:k<10:=by omega
        clear hlt
        go_wp2_with fail
        have e1:IntKind.i64.wrap ((p:Int)+k)=(p:Int)+k:=IntWalk.i64_in _ (by omega)
        have e2:(0:Int)≤(p:Int)+k:=by omega
        have e3:((p:Int)+k).toNat=p+k:=by omega
        obtain ⟨B,hB⟩:∃B:UInt8,s[p+k]'hlt1=B:=⟨_,rfl⟩
        have HL:Hid ((s.data.toList.drop p).drop k=B::(s.data.toList.drop p).drop (k+1)):=by rw[←hB];exact drop_at s p k hlt1
        go_quiet (fail)
        clear e1 e2 e3 hB
        have hBl:(B.toNat:Int)<256:=by have:=B.toNat_lt;omega
        have hrd':Rd 174 b s p false (wr.drewN nq):=hrd
        have hg':w.grownBy (wr.drewN nq) (some b):=grown_drewN hg
        clear hrd hg h0 h1
        generalize wr.drewN nq=wt at *
        by_cases hb8:128≤B.toNat
        · obtain ⟨y2, hU, hy2⟩ := or_acc k acc y B (by omega) hacc.out (hy.out (by omega))
          have HY:=Lib.hid hy2
          clear hy2
          go_wp2_with fail
          go_roundw
          case rel=>
            refine ⟨k+1,acc+B.toNat % 128*128 ^ k,y2,by omega,by omega,by go_num,rfl,acc_lt k acc B.toNat hacc.out,?_,?_,hrd',hg'⟩
            · intro hk9
              exact HY.out (acc_small (k+1) _ hk9 (acc_lt k acc B.toNat hacc.out))
            · show _ = _
              rw[HD.out,HL.out,M.dec_more k acc B _ hlt3 hb8]
          case measure=>simp[intOf];omega
        · by_cases hz1 : 0 < k ∧ B.toNat = 0
          · obtain ⟨hz1, hz2⟩ := hz1
            have HF:Hid (varRes s p false=(0,p,true)):=by
              have:M.dec 0 0 (s.data.toList.drop p)=none:=by rw[HD.out,HL.out,M.dec_bad k acc B _ hlt3 (by omega) (.inl ⟨hz1,hz2⟩)]
              show _=_
              unfold varRes;rw[this];rfl
            have hc2:=hrd'.c2
            have hf2:=hrd'.fz 2
            go_wp2_with fail
            all_goals
              go_ret
              rw[HF.out]
              exact ⟨rfl,grown_set hg' _ _,hrd'.put2 _⟩
          · by_cases hz2 : k = 9 ∧ 1 < B.toNat
            · obtain ⟨hz3, hz4⟩ := hz2
              have HF:Hid (varRes s p false=(0,p,true)):=by
                have:M.dec 0 0 (s.data.toList.drop p)=none:=by rw[HD.out,HL.out,M.dec_bad k acc B _ hlt3 (by omega) (.inr ⟨hz3,hz4⟩)]
                show _=_
                unfold varRes;rw[this];rfl
              have hc2:=hrd'.c2
              have hf2:=hrd'.fz 2
              have hz5:9≤k:=by omega
              have hz6:((B.toNat:Int)==0)=false:=by rw[beq_eq_false_iff_ne];omega
              have hz7:((k:Int)==9)=true:=by rw[beq_iff_eq];omega
              have hz8:(1:Int)<B.toNat:=by omega
              clear hz3 hz1
              go_wp2_with fail
              all_goals
                go_ret
                rw[HF.out]
                exact ⟨rfl,grown_set hg' _ _,hrd'.put2 _⟩
            · obtain ⟨y2, hU, hy2⟩ := or_acc k acc y B (by omega) hacc.out (hy.out (by omega))
              have HY:=Lib.hid hy2
              clear hy2
              have hc1:=hrd'.c1
              have hf1:=hrd'.fz 1
              have hv:y2=acc+B.toNat*128 ^ k:=by
                have:=HY.out (good_small k acc B.toNat (by omega) hacc.out (by omega) (by omega))
                rwa [Nat.mod_eq_of_lt (by omega)] at this
              have HF:Hid (varRes s p false=(wrap64 (y2:Int),p+(k+1),false)):=by
                have:M.dec 0 0 (s.data.toList.drop p)=some (y2,k+1):=by
                  rw[HD.out,HL.out,M.dec_good k acc B _ hlt3 (by omega) (by omega),hv]
                show _=_
                unfold varRes;rw[this];rfl
              clear hv
              have hq:=hrd'.put1 (p+(k+1))
              have hq2:=Lib.hid hq
              clear hq
              have hcase:k=0∨(0<k∧0<B.toNat∧k≠9)∨(0<k∧0<B.toNat∧k=9∧B.toNat≤1):=by omega
              rcases hcase with hk0|⟨hk0,hB0,hk9⟩|⟨hk0,hB0,hk9,hB1⟩
              · have hz5 : ¬ (0 : Int) < k := by omega
                have hz7:((k:Int)==9)=false:=by rw[beq_eq_false_iff_ne];omega
                have hk1:k≤0:=by omega
                clear hz1 hz2 hk0
                go_wp2_with fail
                all_goals
                  go_ret
                  rw[HF.out]
                  exact ⟨rfl,grown_set hg' _ _,hq2.out⟩
              · have hz6 : ((B.toNat : Int) == 0) = false := by rw [beq_eq_false_iff_ne]; omega
                have hz7:((k:Int)==9)=false:=by rw[beq_eq_false_iff_ne];omega
                clear hz1 hz2 hk9
                go_wp2_with fail
                all_goals
                  go_ret
                  rw[HF.out]
                  exact ⟨rfl,grown_set hg' _ _,hq2.out⟩
              · have hz6 : ((B.toNat : Int) == 0) = false := by rw [beq_eq_false_iff_ne]; omega
                have hz7:((k:Int)==9)=true:=by rw[beq_iff_eq];omega
                have hz8:¬(1:Int)<B.toNat:=by omega
                have hz9:9≤k:=by omega
                clear hz1 hz2 hk9 hB1
                go_wp2_with fail
                all_goals
                  go_ret
                  rw[HF.out]
                  exact ⟨rfl,grown_set hg' _ _,hq2.out⟩
      · have HF : Hid (varRes s p false = (0, p, true)) := by
          have:M.dec 0 0 (s.data.toList.drop p)=none:=by
            rw[HD.out]
            by_cases hk10:10≤k
            · exact M.dec_ten _ _ _ hk10
            · rw[List.drop_drop,List.drop_of_length_le (by simp;omega)];rfl
          show _=_
          unfold varRes;rw[this];rfl
        have hc2:=hrd.c2
        have hf2:=hrd.fz 2
        by_cases hz:(s.size:Int)-p≤k
        · by_cases hz10 : 10 ≤ (k : Int)
          · clear hlt
            go_wp2_with fail
            all_goals
              go_ret
              rw[HF.out]
              exact ⟨rfl,grown_set hg _ _,hrd.put2 _⟩
          · clear hlt
            first
              |(exfalso;omega)
              | (go_wp2_with fail
                 all_goals
                   go_ret
                   rw[HF.out]
                   exact ⟨rfl,grown_set hg _ _,hrd.put2 _⟩)
        · have hz10 : 10 ≤ (k : Int) := by omega
          clear hlt
          first
            |(exfalso;omega)
            | (go_wp2_with fail
               all_goals
                 go_ret
                 rw[HF.out]
                 exact ⟨rfl,grown_set hg _ _,hrd.put2 _⟩)
theorem rvar_any (b:Nat) (s:ByteArray) (p:Nat) (f:Bool) (w:World) (h:Rd 174 b s p f w) (hs:s.size≤1000000000000000000) (hp:p≤s.size) :
  Calls Tryz.prog 125 #[.pointer (some ⟨b,0,none⟩)] w fun e w'=>e=.returned (.int .i64 (varRes s p f).1)∧w.grownBy w' (some b)∧Rd 174 b s (varRes s p f).2.1 (varRes s p f).2.2 w':=by
 cases f with
 |true=>exact rvar_failed b s p w h
 |false=>exact rvar_ok b s p w h hs hp
theorem varRes_le (s:ByteArray) (p:Nat) (f:Bool) (hp:p≤s.size):(varRes s p f).2.1≤s.size:=by
 unfold varRes
 split
 ·exact hp
 ·split
  ·exact hp
  ·rename_i u n h
   have:=M.dec_len _ _ _ h
   have h2:=this.2.1
   simp at h2
   show p+n≤s.size
   omega
theorem lt_of_heap {w:World} {b:Nat} {o:Obj} (h:w.heap[b]? = some o):b<w.heap.size:=by
 rcases Nat.lt_or_ge b w.heap.size with h'|h'
 ·exact h'
 ·rw[Array.getElem?_eq_none h'] at h;simp at h
theorem Rd.keep {T b s p f} {w w1:World} (h:Rd T b s p f w) (hb:Below w.heap.size w w1):Rd T b s p f w1:=by
 obtain ⟨zs,h⟩:=h
 have hl:=lt_of_heap h
 exact ⟨zs,by rw[hb.block _ hl];exact h⟩
def Lie (g:Nat) (l:List UInt8) (w:World):Prop:=∀j (h:j<l.length),w.cell? ⟨g,j,none⟩=some (.int .u8 (l[j].toNat:Int))
theorem bytes_lie (x:World) (s:ByteArray) (cap:Nat) (fr:Nat×Nat):Lie x.heap.size s.data.toList (x.alloc (.cells (bytesRow s cap) 5 fr)):=by
 intro j hj
 rw[World.cell?_alloc_mark,bytesRow_at s cap j (by simpa using hj)]
 rfl
theorem bytesRow_size (s:ByteArray) (cap:Nat) (h:s.size≤cap):(bytesRow s cap).size=cap:=by
 unfold bytesRow
 rw[Array.size_append,Array.size_map,Array.size_replicate]
 show s.size+_=_
 omega
theorem bytes_free (x:World) (s:ByteArray) (cap j:Nat) (h:s.size≤cap) (hj:j<cap) :
  (x.alloc (.cells (bytesRow s cap) 5 ((bytesRow s cap).size,(bytesRow s cap).size+1))).frozen? ⟨x.heap.size,j,none⟩=false:=by
 rw[World.frozen?_alloc_mark,bytesRow_size s cap h]
 simp;omega
theorem bytes_some (x:World) (s:ByteArray) (cap j:Nat) (fr:Nat×Nat) (h:s.size≤cap) (hj:j<cap) :
  ((x.alloc (.cells (bytesRow s cap) 5 fr)).cell? ⟨x.heap.size,j,none⟩).isSome=true:=by
 rw[World.cell?_alloc_mark,Array.getElem?_eq_getElem (by rw[bytesRow_size s cap h];exact hj)];rfl
theorem conv_bytes (x:World) (s:ByteArray):∃W cap,(convert 9 57 (.string s)).run Tryz.prog x=.ok (.slice (some ⟨x.heap.size,0,none⟩) s.size cap) W∧s.size≤cap∧Lie x.heap.size s.data.toList W∧
  (∀j,j<cap→W.frozen? ⟨x.heap.size,j,none⟩=false∧(W.cell? ⟨x.heap.size,j,none⟩).isSome=true)∧Below x.heap.size x W∧x.heap.size<W.heap.size:=by
 have hg:=grownCap_ge x s.size 0 5
 refine ⟨_,_,run_bytes_of_string (P:=Tryz.prog) x 9 57 5 s Tryz.underlying9 Tryz.underlying57 Tryz.underlying5,hg,bytes_lie x.drew s _ _,fun j hj=>⟨bytes_free x.drew s _ j hg hj,bytes_some x.drew s _ j _ hg hj⟩,?_,?_⟩
 ·exact ((Below.refl _ _).drew).alloc (Nat.le_refl _) _
 ·rw[World.size_alloc];exact Nat.lt_succ_self _
section
variable {P:Program} {ops:Array Oper} {C:World→Prop} {Q:Act→Prop} {rest:List Oper} {o:Oper} {a:Act}
end
def textRes (s:ByteArray) (p:Nat) (f:Bool):ByteArray×Nat×Bool:=
 let v:=varRes s p f
 let t:=takeRes s v.2.1 v.2.2 v.1
 if t.2.2=true then (⟨#[]⟩,p,true) else (t.1,t.2.1,false)
theorem takeRes_fail (s:ByteArray) (p:Nat) (f:Bool) (n:Int) (h:(takeRes s p f n).2.2=true):(takeRes s p f n).1=⟨#[]⟩:=by
 unfold takeRes at *
 split
 ·rfl
 ·rename_i hh;rw[if_neg hh] at h;simp at h
set_option maxRecDepth 100000 in
set_option maxHeartbeats 400000 in
theorem rtext_any (b:Nat) (s:ByteArray) (p:Nat) (f:Bool) (w:World) (h:Rd 174 b s p f w) (hs:s.size≤1000000000000000000) (hp:p≤s.size) :
  Calls Tryz.prog 59 #[.pointer (some ⟨b,0,none⟩)] w fun e w'=>e=.returned (.string (textRes s p f).1)∧w.grownBy w' (some b)∧Rd 174 b s (textRes s p f).2.1 (textRes s p f).2.2 w':=by
 have hle:=varRes_le s p f hp
 have h1:=h.c1
 have hmf:∀(fn:Fn) (first cap:Array Value) (w:World),(Instr.makeFunc fn first cap).run Tryz.prog w=.ok (.func fn first cap) w:=fun _ _ _ _=>rfl
 go_enter Tryz.func59,Tryz.ntmps59
 go_wp2_with fail
 refine (rvar_any b s p f _ h hs hp).mono ?_
 rintro e x1 ⟨rfl,g1,r1⟩
 clear h1
 go_wp2_with fail
 refine (take_any b s _ _ _ _ r1 hs hle).mono ?_
 rintro e x2 ⟨rfl,g2,r2⟩
 have e2:=r2.c2
 have e1:=r2.fz 1
 have e3:=r2.c1
 have hF:=takeRes_fail s (varRes s p f).2.1 (varRes s p f).2.2 (varRes s p f).1
 have HT:Hid (textRes s p f=if (takeRes s (varRes s p f).2.1 (varRes s p f).2.2 (varRes s p f).1).2.2=true then (⟨#[]⟩,p,true) else ((takeRes s (varRes s p f).2.1 (varRes s p f).2.2 (varRes s p f).1).1,(takeRes s (varRes s p f).2.1 (varRes s p f).2.2 (varRes s p f).1).2.1,false)):=rfl
 generalize takeRes s (varRes s p f).2.1 (varRes s p f).2.2 (varRes s p f).1=t at *
 obtain ⟨t1,t2,t3⟩:=t
 simp only at *
 cases t3 with
 |true=>
  rw[hF rfl] at *
  clear hF
  go_wp2_with fail
  go_ret
  rw[HT.out]
  exact ⟨rfl,grown_set (grown_trans g1 g2) _ _,r2.put1 _⟩
 |false=>
  clear hF
  go_wp2_with fail
  go_ret
  rw[HT.out]
  exact ⟨rfl,grown_trans g1 g2,r2⟩
def bev (l:List UInt8):Nat:=l.foldl (fun a b=>a*256+b.toNat) 0
theorem bev_snoc (l:List UInt8) (b:UInt8):bev (l++[b])=bev l*256+b.toNat:=by simp[bev]
theorem bev_lt (l:List UInt8):bev l<256 ^ l.length:=by
 suffices ∀(l:List UInt8) (a:Nat),l.foldl (fun a b=>a*256+b.toNat) a<(a+1)*256 ^ l.length by
  have:=this l 0
  simpa [bev] using this
 intro l
 induction l with
 |nil=>intro a;simp
 |cons b l ih=>
  intro a
  have h:=ih (a*256+b.toNat)
  have hb:=b.toNat_lt
  rw[List.foldl_cons,List.length_cons,Nat.pow_succ]
  refine Nat.lt_of_lt_of_le h ?_
  rw[Nat.mul_comm (256 ^ l.length) 256,←Nat.mul_assoc]
  exact Nat.mul_le_mul_right _ (by omega)
theorem take_lt (l:List UInt8) (j:Nat) (hj:j≤7):bev (l.take j)<72057594037927936:=by
 have h:=bev_lt (l.take j)
 have h2:256 ^ (l.take j).length≤256 ^ 7:=Nat.pow_le_pow_right (by omega) (by rw[List.length_take];omega)
 omega
theorem take_size (s:ByteArray) (p:Nat) (f:Bool) (n:Int):(takeRes s p f (sz n)).1.size≤8:=by
 unfold takeRes
 split
 ·exact Nat.zero_le _
 ·have:=sz_le n
  simp;omega
theorem wrap64_small (u:Nat) (h:u<9223372036854775808):wrap64 (u:Int)=(u:Int):=IntWalk.wrap64_in _ ⟨by omega,by omega⟩
theorem take_snoc' (t:ByteArray) (j:Nat) (h:j<t.size):t.data.toList.take (j+1)=t.data.toList.take j++[t.data[j]]:=by
 rw[List.take_add_one,List.getElem?_eq_getElem (by simpa using h)];simp
theorem or_byte (u c:Nat) (hu:u<72057594037927936) (hc:c<256):bits .or .i64 (wrap64 ((u:Int)*256)) (c:Int)=wrap64 ((u*256+c:Nat):Int):=by
 have hX:(BitVec.ofInt 64 (wrap64 ((u:Int)*256))).toNat=u*256:=by
  rw[BitVec.toNat_ofInt]
  unfold wrap64
  omega
 have hc2:(BitVec.ofInt 64 (c:Int)).toNat=c:=by
  rw[BitVec.toNat_ofInt]
  omega
 have h3:u*256 ||| c=u*256+c:=by
  have h5:=Nat.shiftLeft_add_eq_or_of_lt (show c<2 ^ 8 by omega) u
  rw[Nat.shiftLeft_eq] at h5
  exact h5.symm
 show IntKind.i64.wrap ((BitVec.ofInt 64 (wrap64 ((u:Int)*256)) ||| BitVec.ofInt 64 (c:Int)).toNat:Int)=_
 rw[BitVec.toNat_or,hX,hc2,h3]
 exact IntWalk.i64_left _
theorem or_byte' (u c:Nat) (hu:u<72057594037927936) (hc:c<256):bits .or .i64 (wrap64 (wrap64 (u:Int)*256)) (wrap64 (c:Int))=wrap64 ((u*256+c:Nat):Int):=by
 rw[wrap64_small u (by omega),wrap64_small c (by omega)]
 exact or_byte u c hu hc
set_option maxRecDepth 100000 in
set_option maxHeartbeats 400000 in
theorem num_any (b:Nat) (s:ByteArray) (p:Nat) (f:Bool) (w:World) (n:Int) (h:Rd 174 b s p f w) (hs:s.size≤1000000000000000000) (hp:p≤s.size) :
  Calls Tryz.prog 60 #[.pointer (some ⟨b,0,none⟩),.int .i64 n] w fun e w'=>e=.returned (.int .i64 (wrap64 (bev (takeRes s p f (sz n)).1.data.toList)))∧w.grownBy w' (some b)∧Rd 174 b s (takeRes s p f (sz n)).2.1 (takeRes s p f (sz n)).2.2 w':=by
 go_enter Tryz.func60,Tryz.ntmps60
 go_wp2_with fail
 refine (size_any n _).mono ?_
 rintro e x1 ⟨rfl,rfl⟩
 go_wp2_with fail
 refine (take_any b s p f _ (sz n) h hs hp).mono ?_
 rintro e x2 ⟨rfl,g2,r2⟩
 have hsz:=take_size s p f n
 generalize ht:(takeRes s p f (sz n)).1=t at *
 have HT:=Lib.hid ht
 clear ht
 obtain ⟨W1,cap,hcb,hcap,hlie,hfree,hbW,hgW⟩:=conv_bytes x2 t
 go_wp2_with fail
 clear hcb
 have hlen:t.data.toList.length=t.size:=Array.length_toList
 have HB:W1.grownBy W1 (some b):=grown_refl _ _
 have G:w.grownBy W1 (some b):=grown_trans g2 (grown_below hbW)
 have R:Rd 174 b s (takeRes s p f (sz n)).2.1 (takeRes s p f (sz n)).2.2 W1:=r2.keep hbW
 clear hfree hbW hgW g2 r2 h
 go_loopw [5,14] (fun a i wr=>∃j:Nat,j≤t.size∧i=.int .i64 j∧a=.int .i64 (wrap64 (bev (t.data.toList.take j)))∧Hid (wr=W1)) (fun a i _=>t.size-(intOf i).toNat)
 case atStart=>exact ⟨0,Nat.zero_le _,rfl,by rw[List.take_zero];unfold bev wrap64;rfl,rfl⟩
 case round=>
  obtain ⟨j,hj,rfl,rfl,HW⟩:=hrel
  by_cases hlt:j<t.size
  ·have hi:j<t.data.toList.length:=by omega
   have f1:=hlie j hi
   rw[←HW.out] at f1
   go_wp2_with fail
   go_roundw
   case rel=>
    refine ⟨j+1,by omega,by go_num,?_,HW⟩
    rw[take_snoc' t j hlt,bev_snoc]
    congr 1
    exact or_byte' _ _ (take_lt _ _ (by omega)) (UInt8.toNat_lt _)
   case measure=>simp[intOf];omega
  ·go_wp2_with fail
   go_ret
   have hje:j=t.size:=by omega
   rw[List.take_of_length_le (by omega)]
   rw[HW.out,HT.out]
   exact ⟨rfl,G,R⟩
end Go.Proofs.YtpdckpifhniioaaGreat.Oct
end
section
set_option linter.unusedVariables false
namespace Go.Proofs.YtpdckpifhniioaaGreat
open Go.RowKit
namespace Ab
abbrev rdB (s:ByteArray) (p:Nat) (f:Bool):Blk:=⟨[.v (.string s),.v (.int .i64 (p:Int)),.v (.bool f)],174⟩
theorem rd_of {β:Bt} {x:World} {b:Nat} {s:ByteArray} {p:Nat} {f:Bool} (h:BlkAt β x b (rdB s p f)):Oct.Rd 174 b s p f x:=by
 rcases h with (⟨h,_⟩|⟨h,_⟩)|⟨ys,zs,h1,h2,_⟩
 ·cases h
 ·cases h
 have:ys=[.string s,.int .i64 (p:Int),.bool f]:=(plLs_iff (ys:=[.string s,.int .i64 (p:Int),.bool f]) rfl β ys).1 h2
 subst this
 exact ⟨zs,h1⟩
theorem of_rd {β:Bt} {x:World} {b:Nat} {s:ByteArray} {p:Nat} {f:Bool} (h:Oct.Rd 174 b s p f x):BlkAt β x b (rdB s p f):=by
 obtain ⟨zs,h⟩:=h
 exact .inr ⟨_,zs,h,⟨⟨rfl,rfl⟩,⟨rfl,rfl⟩,⟨rfl,rfl⟩,trivial⟩,trivial⟩
theorem reader_ok {F id n:Nat} (hent:Enters Tryz.prog F) {s:ByteArray} {p p':Nat} {f f':Bool} {ar:List SV} {vals:List Value} {v:SV} {y:Value} (ha:pls ar=some vals) (hv:v.pl=some y)
  (h:∀b w,Oct.Rd 174 b s p f w→Calls Tryz.prog F (.pointer (some ⟨b,0,none⟩)::vals).toArray w fun e w'=>e=.returned y∧w.grownBy w' (some b)∧Oct.Rd 174 b s p' f' w') :
  CallOK Tryz.prog F (.c (.l (.p id 0))::ar) [(id,rdB s p f)] n v [(id,rdB s p' f')] 0:=by
 refine ⟨hent,fun β x vs hvs hinj hlt hnew hH _=>?_⟩
 match vs,hvs with
 |q::vs,⟨hq,hr⟩=>
  obtain ⟨b,hb,rfl⟩:=hq
  have hvs:=(pls_iff ha β vs).1 hr
  subst hvs
  refine (h b x (rd_of (hH id b _ hb (lk_cons_eq _ _ _)))).mono ?_
  rintro e x' ⟨rfl,hg,hr'⟩
  refine ⟨y,β,rfl,⟨(SV.pl_iff hv β y).2 rfl,Ext.refl β,fun i c hc=>.inl hc,fun i c hc=>.inl hc,hinj,fun i c hc=>Nat.lt_of_lt_of_le (hlt i c hc) hg.size,hg.os,hg.tape,hg.output,hg.size,fun k hk hne=>hg.block k hk (fun e=>?_),fun i c k hc hk=>?_⟩⟩
  ·have e:k=b:=by simpa using e
   subst e
   have:=hne id hb
   rw[lk_cons_eq] at this;cases this
  ·have hi:i=id:=by
    have:=lk_mem hk
    simp only[List.mem_singleton,Prod.mk.injEq] at this;exact this.1
   subst hi
   rw[lk_cons_eq] at hk
   cases hk
   rw[hb] at hc
   cases hc
   exact of_rd hr'
theorem reader_ro {F id n:Nat} (hent:Enters Tryz.prog F) {s:ByteArray} {p:Nat} {f:Bool} {ar:List SV} {vals:List Value} {v:SV} {y:Value} (ha:pls ar=some vals) (hv:v.pl=some y)
  (h:∀b w,Oct.Rd 174 b s p f w→Calls Tryz.prog F (.pointer (some ⟨b,0,none⟩)::vals).toArray w fun e w'=>e=.returned y∧Grow w w') :
  CallOK Tryz.prog F (.c (.l (.p id 0))::ar) [(id,rdB s p f)] n v [] 0:=by
 refine ⟨hent,fun β x vs hvs hinj hlt hnew hH _=>?_⟩
 match vs,hvs with
 |q::vs,⟨hq,hr⟩=>
  obtain ⟨b,hb,rfl⟩:=hq
  have hvs:=(pls_iff ha β vs).1 hr
  subst hvs
  refine (h b x (rd_of (hH id b _ hb (lk_cons_eq _ _ _)))).mono ?_
  rintro e x' ⟨rfl,hg⟩
  replace hg:Below x.heap.size x x':=hg
  exact ⟨y,β,rfl,⟨(SV.pl_iff hv β y).2 rfl,Ext.refl β,fun i c hc=>.inl hc,fun i c hc=>.inl hc,hinj,fun i c hc=>Nat.lt_of_lt_of_le (hlt i c hc) hg.size,hg.os,hg.tape,hg.output,hg.size,fun k hk hne=>hg.block k hk,fun i c k hc hk=>by cases hk⟩⟩
theorem new_ok {F n t:Nat} (hent:Enters Tryz.prog F) {ar:List SV} {vals ys:List Value} (ha:pls ar=some vals) (hl:∀y∈ys,leafy y=true)
  (h:∀w,Calls Tryz.prog F vals.toArray w fun e w'=>e=.returned (.pointer (some ⟨w.heap.size,0,none⟩))∧w'=w.alloc (.cells ys.toArray t)) :
  CallOK Tryz.prog F ar [] n (.c (.l (.p n 0))) [(n,⟨ys.map .v,.t t⟩)] 1:=by
 refine ⟨hent,fun β x vs hvs hinj hlt hnew hH _=>?_⟩
 have hvs:=(pls_iff ha β vs).1 hvs
 subst hvs
 refine (h x).mono ?_
 rintro e x' ⟨rfl,rfl⟩
 exact ⟨_,β.set n x.heap.size none,rfl,done_new ⟨hinj,hlt⟩ (hnew n (Nat.le_refl _) (by omega)) rfl rfl rfl (by simp) (fun q hq=>Below.heap_alloc x _ q hq) ⟨x.heap.size,Bt.set_b _ _ _ _,rfl⟩ (.inr ⟨ys,[],by simpa [BT.ty,BT.fr] using heap_alloc_new x (.cells ys.toArray t),den_vs hl,trivial⟩)⟩
end Ab
end Go.Proofs.YtpdckpifhniioaaGreat
end
section
set_option linter.unusedVariables false
set_option linter.unusedSimpArgs false
namespace Go.Proofs.YtpdckpifhniioaaGreat
open Go.RowKit
namespace Ab
theorem enters53:Enters Tryz.prog 53:=fun args w=>by go_simp
theorem C53 (s:ByteArray) (hs:s.size≤1000000000000000000) (n:Nat):CallOK Tryz.prog 53 [.c (.l (.v (.string s)))] [] n (iv .u32 (Oct.M.sum s.data.toList:Nat)) [] 0:=
 call_plain enters53 (vals:=[.string s]) (y:=.int .u32 (Oct.M.sum s.data.toList:Nat)) rfl rfl n fun x=>(Oct.sum_any s x hs).mono fun e x' h=>⟨h.1,by first|exact h.2|exact h.2▸Grow.refl _⟩
theorem enters48:Enters Tryz.prog 48:=fun args w=>by go_simp
theorem C48 (k:Int)  (n:Nat):CallOK Tryz.prog 48 [iv .i64 k] [] n (.c (.l (.v (.string ⟨(Oct.M.leb (Oct.u64 k)).toArray⟩)))) [] 0:=
 call_plain enters48 (vals:=[.int .i64 k]) (y:=.string ⟨(Oct.M.leb (Oct.u64 k)).toArray⟩) rfl rfl n fun x=>(Oct.var_any k x).mono fun e x' h=>⟨h.1,by first|exact h.2|exact h.2▸Grow.refl _⟩
theorem enters50:Enters Tryz.prog 50:=fun args w=>by go_simp
theorem C50 (k m:Int)  (n:Nat):CallOK Tryz.prog 50 [iv .i64 k,iv .i64 m] [] n (.c (.l (.v (.string ⟨(Oct.M.be (Oct.sz m) (Oct.u64 k)).toArray⟩)))) [] 0:=
 call_plain enters50 (vals:=[.int .i64 k,.int .i64 m]) (y:=.string ⟨(Oct.M.be (Oct.sz m) (Oct.u64 k)).toArray⟩) rfl rfl n fun x=>(Oct.put_any k m x).mono fun e x' h=>⟨h.1,by first|exact h.2|exact h.2▸Grow.refl _⟩
theorem enters55:Enters Tryz.prog 55:=fun args w=>by go_simp
theorem C55 (s:ByteArray) (hs:s.size≤1000000000000000000) (n:Nat):CallOK Tryz.prog 55 [.c (.l (.v (.string s)))] [] n (.c (.l (.v (.string ⟨(Oct.txt s).toArray⟩)))) [] 0:=
 call_plain enters55 (vals:=[.string s]) (y:=.string ⟨(Oct.txt s).toArray⟩) rfl rfl n fun x=>(Oct.text_any s x hs).mono fun e x' h=>⟨h.1,by first|exact h.2|exact h.2▸Grow.refl _⟩
theorem enters125:Enters Tryz.prog 125:=fun args w=>by go_simp
theorem C125 (id:Nat) (s:ByteArray) (P:Int) (f:Bool)  (hs:s.size≤1000000000000000000) (h0:0≤P) (hP:P≤s.size) (n:Nat) :
  CallOK Tryz.prog 125 [.c (.l (.p id 0))] [(id,⟨[.v (.string s),.v (.int .i64 P),.v (.bool f)],.t 174⟩)] n (iv .i64 (Oct.varRes s P.toNat f).1) [(id,⟨[.v (.string s),.v (.int .i64 ((Oct.varRes s P.toNat f).2.1:Nat)),.v (.bool (Oct.varRes s P.toNat f).2.2)],.t 174⟩)] 0:=by
 have hp:P.toNat≤s.size:=by omega
 have e:P=(P.toNat:Int):=by omega
 have key:=reader_ok (id:=id) (n:=n) (F:=125) enters125 (s:=s) (p:=P.toNat) (p':=(Oct.varRes s P.toNat f).2.1) (f:=f) (f':=(Oct.varRes s P.toNat f).2.2) (ar:=[]) (vals:=[]) (v:=iv .i64 (Oct.varRes s P.toNat f).1) (y:=.int .i64 (Oct.varRes s P.toNat f).1) rfl rfl (fun b w h=>Oct.rvar_any b s P.toNat f w h hs hp)
 unfold rdB at key
 rw[←e] at key
 exact key
def V125 (S:St) (i:Nat):SV:=match S.blk i with|some ⟨[.v (.string s),.v (.int _ p),.v (.bool f)],_⟩=>iv .i64 (Oct.varRes s p.toNat f).1|_=>.u
def W125 (S:St) (i:Nat):Blk:=match S.blk i with|some ⟨[.v (.string s),.v (.int _ p),.v (.bool f)],_⟩=>⟨[.v (.string s),.v (.int .i64 ((Oct.varRes s p.toNat f).2.1:Nat)),.v (.bool (Oct.varRes s p.toNat f).2.2)],.t 174⟩|_=>⟨[],.t 0⟩
theorem enters59:Enters Tryz.prog 59:=fun args w=>by go_simp
theorem C59 (id:Nat) (s:ByteArray) (P:Int) (f:Bool)  (hs:s.size≤1000000000000000000) (h0:0≤P) (hP:P≤s.size) (n:Nat) :
  CallOK Tryz.prog 59 [.c (.l (.p id 0))] [(id,⟨[.v (.string s),.v (.int .i64 P),.v (.bool f)],.t 174⟩)] n (.c (.l (.v (.string (Oct.textRes s P.toNat f).1)))) [(id,⟨[.v (.string s),.v (.int .i64 ((Oct.textRes s P.toNat f).2.1:Nat)),.v (.bool (Oct.textRes s P.toNat f).2.2)],.t 174⟩)] 0:=by
 have hp:P.toNat≤s.size:=by omega
 have e:P=(P.toNat:Int):=by omega
 have key:=reader_ok (id:=id) (n:=n) (F:=59) enters59 (s:=s) (p:=P.toNat) (p':=(Oct.textRes s P.toNat f).2.1) (f:=f) (f':=(Oct.textRes s P.toNat f).2.2) (ar:=[]) (vals:=[]) (v:=.c (.l (.v (.string (Oct.textRes s P.toNat f).1)))) (y:=.string (Oct.textRes s P.toNat f).1) rfl rfl (fun b w h=>Oct.rtext_any b s P.toNat f w h hs hp)
 unfold rdB at key
 rw[←e] at key
 exact key
def V59 (S:St) (i:Nat):SV:=match S.blk i with|some ⟨[.v (.string s),.v (.int _ p),.v (.bool f)],_⟩=>.c (.l (.v (.string (Oct.textRes s p.toNat f).1)))|_=>.u
def W59 (S:St) (i:Nat):Blk:=match S.blk i with|some ⟨[.v (.string s),.v (.int _ p),.v (.bool f)],_⟩=>⟨[.v (.string s),.v (.int .i64 ((Oct.textRes s p.toNat f).2.1:Nat)),.v (.bool (Oct.textRes s p.toNat f).2.2)],.t 174⟩|_=>⟨[],.t 0⟩
theorem enters60:Enters Tryz.prog 60:=fun args w=>by go_simp
theorem C60 (id:Nat) (s:ByteArray) (P:Int) (f:Bool) (m:Int) (hs:s.size≤1000000000000000000) (h0:0≤P) (hP:P≤s.size) (n:Nat) :
  CallOK Tryz.prog 60 [.c (.l (.p id 0)),iv .i64 m] [(id,⟨[.v (.string s),.v (.int .i64 P),.v (.bool f)],.t 174⟩)] n (iv .i64 (wrap64 (Oct.bev (Oct.takeRes s P.toNat f (Oct.sz m)).1.data.toList))) [(id,⟨[.v (.string s),.v (.int .i64 ((Oct.takeRes s P.toNat f (Oct.sz m)).2.1:Nat)),.v (.bool (Oct.takeRes s P.toNat f (Oct.sz m)).2.2)],.t 174⟩)] 0:=by
 have hp:P.toNat≤s.size:=by omega
 have e:P=(P.toNat:Int):=by omega
 have key:=reader_ok (id:=id) (n:=n) (F:=60) enters60 (s:=s) (p:=P.toNat) (p':=(Oct.takeRes s P.toNat f (Oct.sz m)).2.1) (f:=f) (f':=(Oct.takeRes s P.toNat f (Oct.sz m)).2.2) (ar:=[iv .i64 m]) (vals:=[.int .i64 m]) (v:=iv .i64 (wrap64 (Oct.bev (Oct.takeRes s P.toNat f (Oct.sz m)).1.data.toList))) (y:=.int .i64 (wrap64 (Oct.bev (Oct.takeRes s P.toNat f (Oct.sz m)).1.data.toList))) rfl rfl (fun b w h=>Oct.num_any b s P.toNat f w m h hs hp)
 unfold rdB at key
 rw[←e] at key
 exact key
def V60 (S:St) (i:Nat) (m:Int):SV:=match S.blk i with|some ⟨[.v (.string s),.v (.int _ p),.v (.bool f)],_⟩=>iv .i64 (wrap64 (Oct.bev (Oct.takeRes s p.toNat f (Oct.sz m)).1.data.toList))|_=>.u
def W60 (S:St) (i:Nat) (m:Int):Blk:=match S.blk i with|some ⟨[.v (.string s),.v (.int _ p),.v (.bool f)],_⟩=>⟨[.v (.string s),.v (.int .i64 ((Oct.takeRes s p.toNat f (Oct.sz m)).2.1:Nat)),.v (.bool (Oct.takeRes s p.toNat f (Oct.sz m)).2.2)],.t 174⟩|_=>⟨[],.t 0⟩
def V64 (S:St) (i:Nat) (m:Int):SV:=match S.blk i with|some ⟨[.v (.string s),.v (.int _ p),.v (.bool f)],_⟩=>.c (.l (.v (.string (Oct.takeRes s p.toNat f m).1)))|_=>.u
def W64 (S:St) (i:Nat) (m:Int):Blk:=match S.blk i with|some ⟨[.v (.string s),.v (.int _ p),.v (.bool f)],_⟩=>⟨[.v (.string s),.v (.int .i64 ((Oct.takeRes s p.toNat f m).2.1:Nat)),.v (.bool (Oct.takeRes s p.toNat f m).2.2)],.t 174⟩|_=>⟨[],.t 0⟩
theorem enters58:Enters Tryz.prog 58:=fun args w=>by go_simp
theorem enters61:Enters Tryz.prog 61:=fun args w=>by go_simp
theorem enters63:Enters Tryz.prog 63:=fun args w=>by go_simp
theorem C58 (s:ByteArray) (n:Nat):CallOK Tryz.prog 58 [.c (.l (.v (.string s)))] [] n (.c (.l (.p n 0))) [(n,⟨[.v (.string s),.v (.int .i64 0),.v (.bool false)],.t 174⟩)] 1:=
 new_ok enters58 (vals:=[.string s]) (ys:=[.string s,.int .i64 0,.bool false]) rfl (by simp[leafy,Value.oneCell']) fun w=>(Oct.read_any s w).mono fun e w' h=>⟨h.1,h.2.symm⟩
theorem C61 (id:Nat) (s:ByteArray) (P:Int) (f:Bool) (h0:0≤P) (n:Nat):CallOK Tryz.prog 61 [.c (.l (.p id 0))] [(id,⟨[.v (.string s),.v (.int .i64 P),.v (.bool f)],.t 174⟩)] n (bv f) [] 0:=by
 have e:P=(P.toNat:Int):=by omega
 have key:=reader_ro (id:=id) (n:=n) (F:=61) enters61 (s:=s) (p:=P.toNat) (f:=f) (ar:=[]) (vals:=[]) (v:=bv f) (y:=.bool f) rfl rfl (fun b w h=>(Oct.failed_any b s P.toNat f w h).mono fun e w' h=>⟨h.1,h.2▸Grow.refl _⟩)
 unfold rdB at key
 rw[←e] at key
 exact key
theorem grow_drewN (w:World) (n:Nat):Grow w (w.drewN n):=⟨rfl,rfl,rfl,Nat.le_refl _,fun _ _=>rfl⟩
theorem C63 (id:Nat) (s:ByteArray) (P:Int) (f:Bool) (hs:s.size≤1000000000000000000) (h0:0≤P) (hP:P≤s.size) (n:Nat):CallOK Tryz.prog 63 [.c (.l (.p id 0))] [(id,⟨[.v (.string s),.v (.int .i64 P),.v (.bool f)],.t 174⟩)] n (iv .i64 (s.size-P)) [] 0:=by
 have e:P=(P.toNat:Int):=by omega
 have key:=reader_ro (id:=id) (n:=n) (F:=63) enters63 (s:=s) (p:=P.toNat) (f:=f) (ar:=[]) (vals:=[]) (v:=iv .i64 (s.size-P.toNat)) (y:=.int .i64 (s.size-P.toNat)) rfl rfl (fun b w h=>(Oct.left_any b s P.toNat f w h hs (by omega)).mono fun e w' h=>⟨h.1,by obtain ⟨k,hk⟩:=h.2;rw[hk];exact grow_drewN _ _⟩)
 unfold rdB at key
 rw[←e] at key
 exact key
def V61 (S:St) (i:Nat):SV:=match S.blk i with|some ⟨[.v (.string s),.v (.int _ p),.v (.bool f)],_⟩=>bv f|_=>.u
def V63 (S:St) (i:Nat):SV:=match S.blk i with|some ⟨[.v (.string s),.v (.int _ p),.v (.bool f)],_⟩=>iv .i64 (s.size-p)|_=>.u
def hasP (s t:ByteArray):Bool:=bif decide ((s.size:Int)≥t.size) then (s.extract 0 t.size).toList==t.toList else false
def cutP (s t:ByteArray):ByteArray×Bool:=bif hasP s t then (s.extract t.size s.size,true) else (s,false)
theorem enters160:Enters Tryz.prog 160:=fun args w=>by go_simp
def cz_C160:Cz:={
 ct:=(fun f=>match f with
 |_=>none)
 eq:=(fun t=>match t with
 |_=>none)
 raw:=[],sym:=[],nf:=[],ap:=true,off:=[],on:=[],lp:=fun _=>none,un:=0}
set_option maxRecDepth 100000 in
set_option maxHeartbeats 400000 in
theorem C160 (s t:ByteArray) (hs:s.size≤1000000000000000000) (n:Nat):CallOK Tryz.prog 160 [.c (.l (.v (.string s))),.c (.l (.v (.string t)))] [] n (bv (hasP s t)) [] 0:=by
 refine CallOK.any ?_ (by kernel_rfl) (by kernel_rfl) n
 refine call_ok (cx:=cz_C160) (nm:=[]) rfl Tryz.func160 (body:=Tryz.f160.body.getD .skip) rfl enters160 (by kernel_rfl) ?_
 apply of_eq (q:=(decide ((Nat.cast s.size:Int)≥(Nat.cast t.size:Int))=true→decide ((Nat.cast s.size:Int)≥(Nat.cast t.size:Int))=true∧True)∧(decide ((Nat.cast s.size:Int)≥(Nat.cast t.size:Int))=true→decide ((Nat.cast s.size:Int)≥(Nat.cast t.size:Int))=true∧decide ((Nat.cast s.size:Int)≥(Nat.cast t.size:Int))=true∧SlOK 0 (Nat.cast t.size:Int) (Nat.cast s.size:Int)∧True)∧(decide ((Nat.cast s.size:Int)≥(Nat.cast t.size:Int))=true→decide ((Nat.cast s.size:Int)≥(Nat.cast t.size:Int))=true∧decide ((Nat.cast s.size:Int)≥(Nat.cast t.size:Int))=true∧True)∧(decide ((Nat.cast s.size:Int)≥(Nat.cast t.size:Int))=true→decide ((Nat.cast s.size:Int)≥(Nat.cast t.size:Int))=true)∧Le (bv (bif decide ((Nat.cast s.size:Int)≥(Nat.cast t.size:Int)) then (s.extract (Int.toNat 0) ((Nat.cast t.size:Int)).toNat).toList==t.toList else false)) (bv (hasP s t))∧True) (by kernel_rfl)
 repeat' (first|exact trivial|with_reducible apply And.intro|(with_reducible apply HB.mk)|with_reducible intro _)
 all_goals first
  |(assumption)
  |(have:=of_decide_eq_true ‹_›;unfold SlOK;omega)
  |(exact Le.of rfl)
  |(exact Le.of rfl)
theorem hasP_le {s t:ByteArray} (h:hasP s t=true):t.size≤s.size:=by
 unfold hasP at h
 by_cases k:(s.size:Int)≥t.size
 ·omega
 ·rw[decide_eq_false k] at h;cases h
theorem enters124:Enters Tryz.prog 124:=fun args w=>by go_simp
def cz_C124:Cz:={
 ct:=(fun f=>match f with
 |160=>some fun _ _S ar=>match ar with | [.c (.l (.v (.string s))),.c (.l (.v (.string t)))]=>some {v:=bv (hasP s t),rd:=[],wr:=[],nw:=0}|_=>none
 |_=>none)
 eq:=(fun t=>match t with
 |_=>none)
 raw:=[],sym:=[],nf:=[],ap:=true,off:=[],on:=[],lp:=fun _=>none,un:=0}
set_option maxRecDepth 100000 in
set_option maxHeartbeats 400000 in
theorem C124 (s t:ByteArray) (hs:s.size≤1000000000000000000) (n:Nat):CallOK Tryz.prog 124 [.c (.l (.v (.string s))),.c (.l (.v (.string t)))] [] n (.tup [.l (.v (.string (cutP s t).1)),.l (.v (.bool (cutP s t).2))]) [] 0:=by
 refine CallOK.any ?_ (by kernel_rfl) (by kernel_rfl) n
 have hsz:=hasP_le (s:=s) (t:=t)
 refine call_ok (cx:=cz_C124) (nm:=[]) rfl Tryz.func124 (body:=Tryz.f124.body.getD .skip) rfl enters124 (by kernel_rfl) ?_
 apply of_eq (q:=CallOKd Tryz.prog 160 [] [SV.c (Cp.l (Leaf.v (Value.string s))),SV.c (Cp.l (Leaf.v (Value.string t)))] [] 0 (bv (hasP s t)) [] 0∧HB (!hasP s t) (Le (SV.tup [Cp.l (Leaf.v (Value.string s)),Cp.l (lb false)]) (SV.tup [Cp.l (Leaf.v (Value.string (cutP s t).fst)),Cp.l (lb (cutP s t).snd)])∧True) (SlOK (Nat.cast t.size:Int) (Nat.cast s.size:Int) (Nat.cast s.size:Int)∧Le (SV.tup [Cp.l (Leaf.v (Value.string (s.extract ((Nat.cast t.size:Int)).toNat ((Nat.cast s.size:Int)).toNat))),Cp.l (lb true)]) (SV.tup [Cp.l (Leaf.v (Value.string (cutP s t).fst)),Cp.l (lb (cutP s t).snd)])∧True)) (by kernel_rfl)
 repeat' (first|exact trivial|with_reducible apply And.intro|(with_reducible apply HB.mk)|with_reducible intro _)
 all_goals first
  |((refine C160 _ _ ?_ _);first|assumption|decide +kernel)
  |(refine Le.of ?_;unfold cutP;rw[show hasP s t=false by simpa using ‹(!hasP s t)=true›];rfl)
  |(refine Le.of ?_;unfold cutP;rw[show hasP s t=true by simpa using ‹(!hasP s t)=false›];rfl)
  |(have:=hasP_le (show hasP s t=true by simpa using ‹(!hasP s t)=false›);unfold SlOK;omega)
theorem enters57:Enters Tryz.prog 57:=fun args w=>by go_simp
def cz_C57:Cz:={
 ct:=(fun f=>match f with
 |124=>some fun _ _S ar=>match ar with | [.c (.l (.v (.string s))),.c (.l (.v (.string t)))]=>some {v:=.tup [.l (.v (.string (cutP s t).1)),.l (.v (.bool (cutP s t).2))],rd:=[],wr:=[],nw:=0}|_=>none
 |_=>none)
 eq:=(fun t=>match t with
 |_=>none)
 raw:=[],sym:=[],nf:=[],ap:=true,off:=[],on:=[],lp:=fun _=>none,un:=0}
set_option maxRecDepth 100000 in
set_option maxHeartbeats 400000 in
theorem C57 (s t:ByteArray) (hs:s.size≤1000000000000000000) (n:Nat):CallOK Tryz.prog 57 [.c (.l (.v (.string s))),.c (.l (.v (.string t)))] [] n (.tup [.l (.v (.string (cutP s t).1)),.l (.v (.bool (cutP s t).2))]) [] 0:=by
 refine CallOK.any ?_ (by kernel_rfl) (by kernel_rfl) n
 refine call_ok (cx:=cz_C57) (nm:=[]) rfl Tryz.func57 (body:=Tryz.f57.body.getD .skip) rfl enters57 (by kernel_rfl) ?_
 apply of_eq (q:=CallOKd Tryz.prog 124 [] [SV.c (Cp.l (Leaf.v (Value.string s))),SV.c (Cp.l (Leaf.v (Value.string t)))] [] 0 (SV.tup [Cp.l (Leaf.v (Value.string (cutP s t).fst)),Cp.l (lb (cutP s t).snd)]) [] 0∧Le (SV.tup [Cp.l (Leaf.v (Value.string (cutP s t).fst)),Cp.l (lb (cutP s t).snd)]) (SV.tup [Cp.l (Leaf.v (Value.string (cutP s t).fst)),Cp.l (lb (cutP s t).snd)])∧True) (by kernel_rfl)
 repeat' (first|exact trivial|with_reducible apply And.intro|(with_reducible apply HB.mk)|with_reducible intro _)
 all_goals first
  |(with_reducible exact Le.refl _)
  |((refine C124 _ _ ?_ _);first|assumption|decide +kernel)
end Ab
end Go.Proofs.YtpdckpifhniioaaGreat
end
section
set_option linter.unusedVariables false
namespace Go.Proofs.YtpdckpifhniioaaGreat
open Go.RowKit
namespace Ab
abbrev u8 (n:Int):Leaf:=.v (.int .u8 n)
abbrev ub (b:UInt8):Leaf:=u8 (b.toNat:Nat)
def tl (t:Nat→UInt8):List Leaf:=(List.range 256).map fun i=>ub (t i)
theorem tl_len (t:Nat→UInt8):(tl t).length=256:=by simp[tl]
theorem tl_at (t:Nat→UInt8) {i:Nat} (h:i<256):(tl t)[i]? = some (ub (t i)):=by simp[tl,h]
theorem tl_none (t:Nat→UInt8) {i:Nat} (h:¬i<256):(tl t)[i]? = none:=by simp[tl];omega
theorem tl_getD (t:Nat→UInt8) {i:Nat} (h:i<256):(tl t).getD i .u=ub (t i):=by rw[List.getD_eq_getElem?_getD,tl_at t h];rfl
def px (t:Nat→UInt8) (k:Nat):List Leaf:=[ub (t (4*k)),ub (t (4*k+1)),ub (t (4*k+2)),ub (t (4*k+3))]
theorem tl_pix (t:Nat→UInt8) {k:Nat} (h:k<64):((tl t).drop (k*4)).take 4=px t k:=by
 apply List.ext_getElem?
 intro j
 rw[List.getElem?_take]
 split
 ·rename_i hj
  rw[List.getElem?_drop,tl_at t (by omega),Nat.mul_comm k 4]
  unfold px
  match j,hj with
  |0,_=>rfl
  |1,_=>rfl
  |2,_=>rfl
  |3,_=>rfl
 ·rename_i hj
  unfold px
  rw[List.getElem?_eq_none (by simp;omega)]
def setP (t:Nat→UInt8) (k:Nat) (a b c d:UInt8):Nat→UInt8:=fun i=>if i=4*k then a else if i=4*k+1 then b else if i=4*k+2 then c else if i=4*k+3 then d else t i
theorem tl_set (t:Nat→UInt8) {k:Nat} (h:k<64) (a b c d:UInt8):splice (tl t) (k*4) [ub a,ub b,ub c,ub d]=tl (setP t k a b c d):=by
 apply List.ext_getElem?
 intro j
 simp only[splice]
 by_cases hj:j<256
 ·rw[tl_at _ hj]
  simp only[List.getElem?_set,List.length_set,tl_len]
  unfold setP
  by_cases h0:j=4*k
  ·subst h0
   rw[if_neg (by omega),if_neg (by omega),if_neg (by omega),if_pos (by omega),if_pos (by omega),if_pos rfl]
  ·by_cases h1:j=4*k+1
   ·subst h1
    rw[if_neg (by omega),if_neg (by omega),if_pos (by omega),if_pos (by omega),if_neg (by omega),if_pos rfl]
   ·by_cases h2:j=4*k+2
    ·subst h2
     rw[if_neg (by omega),if_pos (by omega),if_pos (by omega),if_neg (by omega),if_neg (by omega),if_pos rfl]
    ·by_cases h3:j=4*k+3
     ·subst h3
      rw[if_pos (by omega),if_pos (by omega),if_neg (by omega),if_neg (by omega),if_neg (by omega),if_pos rfl]
     ·rw[if_neg (by omega),if_neg (by omega),if_neg (by omega),if_neg (by omega),tl_at _ hj,if_neg h0,if_neg h1,if_neg h2,if_neg h3]
 ·rw[tl_none _ hj]
  rw[List.getElem?_eq_none]
  simp only[List.length_set,tl_len]
  omega
theorem tl_ext {t u:Nat→UInt8} (h:∀i,i<256→t i=u i):tl t=tl u:=by
 apply List.ext_getElem?
 intro j
 by_cases hj:j<256
 ·rw[tl_at _ hj,tl_at _ hj,h j hj]
 ·rw[tl_none _ hj,tl_none _ hj]
def zT:Nat→UInt8:=fun _=>0
theorem tl_zero:List.replicate 256 (u8 0)=tl zT:=by kernel_rfl
theorem eq_key {t m D D':Nat} (hk:Tryz.prog.keyTypeAt m t=true) (hm:m≤10000) (hg:Tryz.prog.eqGuardType Tryz.prog.depth t=false) {xs ys:List Value} {la lb:List Lit} (hlx:∀y∈xs,leafy y=true) (hly:∀y∈ys,leafy y=true)
  (fx:(Value.agg xs.toArray).formed Tryz.prog t=true) (fy:(Value.agg ys.toArray).formed Tryz.prog t=true) (hx:Tryz.prog.keyLits D t xs=some la) (hy:Tryz.prog.keyLits D' t ys=some lb) (b:Bool) (hb:b=true↔la=lb) :
  EqOK Tryz.prog t (xs.map .v) (ys.map .v) b:=by
 intro β u v x y w hu hv
 have pl:∀ {l:List Value},(∀y∈l,leafy y=true)→plLs (l.map .v)=some l:=by
  intro l hl
  induction l with
  |nil=>rfl
  |cons a l ih=>
   simp only[List.map_cons,plLs,Leaf.pl,hl a (by simp),ih (fun y hy=>hl y (by simp[hy]))]
 have hu':=(plLs_iff (pl hlx) β u).1 hu
 have hv':=(plLs_iff (pl hly) β v).1 hv
 subst hu' hv'
 obtain ⟨r,hr,hiff⟩:=run_equalIn_deep (P:=Tryz.prog) (10000-m) m t hk w D D' (.agg u.toArray) (.agg v.toArray) la lb fx fy (by simpa [Value.cells] using hx) (by simpa [Value.cells] using hy)
 rw[show 10000-m+m=10000 by omega] at hr
 have hrb:r=b:=by
  cases r<;>cases b<;>simp_all
 subst hrb
 have g:∀op,(eqGuard op t x y (.agg u.toArray) (.agg v.toArray)).run Tryz.prog w=.ok () w:=by
  intro op;unfold eqGuard;cases op<;>simp[Sem.run_bind,hg,go_sem]
 constructor
 ·rw[Sem.run_bind,g,Result.andThen_ok,run_eql_struct,hr];rfl
 ·rw[Sem.run_bind,g,Result.andThen_ok,run_neq_struct,hr];rfl
end Ab
end Go.Proofs.YtpdckpifhniioaaGreat
end
