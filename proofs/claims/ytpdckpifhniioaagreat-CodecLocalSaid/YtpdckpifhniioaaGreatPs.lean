/- Part 19 of what CodecLocal rests on. -/
import Derived.Test.YtpdckpifhniioaaGreatPk
import Derived.Test.YtpdckpifhniioaaGreatPr
section
set_option linter.unusedVariables false
set_option linter.unusedSimpArgs false
namespace Go.Proofs.YtpdckpifhniioaaGreat
open Go.RowKit
namespace Ab
def byl (s:ByteArray):List UInt8:=s.data.toList
def rmd (s:ByteArray) (p:Nat):List UInt8:=(byl s).drop p
theorem byl_len (s:ByteArray):(byl s).length=s.size:=by unfold byl;rw[Array.length_toList];rfl
theorem byl_append (s t:ByteArray):byl (s++t)=byl s++byl t:=by simp[byl,ByteArray.data_append]
theorem byl_ext {s t:ByteArray} (h:byl s=byl t):s=t:=by
 obtain ⟨⟨a⟩⟩:=s
 obtain ⟨⟨b⟩⟩:=t
 have:a=b:=h
 rw[this]
theorem byl_mk (l:List UInt8):byl ⟨l.toArray⟩=l:=rfl
theorem byl_extract (s:ByteArray) (i j:Nat):byl (s.extract i j)=((byl s).drop i).take (j-i):=by
 unfold byl
 rw[ByteArray.data_extract,Array.toList_extract,List.extract_eq_take_drop]
theorem rm_zero (s:ByteArray):rmd s 0=byl s:=by unfold rmd;rw[List.drop_zero]
theorem rm_len (s:ByteArray) (p:Nat):(rmd s p).length=s.size-p:=by unfold rmd;rw[List.length_drop,byl_len]
theorem rm_step {s:ByteArray} {p:Nat} {B C:List UInt8} (h:rmd s p=B++C) (hp:p≤s.size):rmd s (p+B.length)=C∧p+B.length≤s.size:=by
 constructor
 ·unfold rmd at *
  rw[←List.drop_drop,h,List.drop_left]
 ·have:=congrArg List.length h
  rw[rm_len,List.length_append] at this
  omega
theorem rd_take {s:ByteArray} {p:Nat} {B C:List UInt8} (h:rmd s p=B++C) (hp:p≤s.size) {m:Int} (hm:m=(B.length:Nat)):Oct.takeRes s p false m=(⟨B.toArray⟩,p+B.length,false):=by
 have h1:=(rm_step h hp).2
 unfold Oct.takeRes
 rw[if_neg (by
  rintro (h|h|h)
  ·cases h
  ·omega
  ·omega),hm]
 have e:(((B.length:Nat):Int)).toNat=B.length:=rfl
 rw[e]
 have:s.extract p (p+B.length)=⟨B.toArray⟩:=byl_ext (by
  rw[byl_extract,byl_mk,Nat.add_sub_cancel_left]
  show (rmd s p).take _=_
  rw[h,List.take_left];rfl)
 rw[this]
theorem rd_var {s:ByteArray} {p:Nat} {v:Nat} {C:List UInt8} (h:rmd s p=Oct.M.leb v++C) (hv:v<9223372036854775808):Oct.varRes s p false=((v:Int),p+(Oct.M.leb v).length,false):=by
 have h1:Oct.M.dec 0 0 (s.data.toList.drop p)=some (v,(Oct.M.leb v).length):=(Oct.M.dec_iff _ _ _).2 ⟨by omega,rfl,C,h⟩
 unfold Oct.varRes
 rw[if_neg (by simp),h1]
 simp only[]
 rw[Oct.wrap64_small v hv]
theorem bev_be:∀(k u:Nat),Oct.bev (Oct.M.be k u)=u % 256 ^ k
 |0,u=>by simp[Oct.bev,Oct.M.be,Nat.mod_one]
 |k+1,u=>by
  rw[Oct.M.be_snoc,Oct.bev_snoc,bev_be k,Nat.pow_succ,Nat.mul_comm (256 ^ k),Nat.mod_mul]
  have:(UInt8.ofNat u).toNat=u % 256:=by simp
  rw[this];omega
theorem byl_var (k:Int):byl (varB k)=Oct.M.leb (Oct.u64 k):=rfl
theorem byl_txt (h:ByteArray):byl (txtB h)=Oct.M.leb h.size++byl h:=rfl
theorem rd_num {s:ByteArray} {p:Nat} {k m:Int} {C:List UInt8} (h:rmd s p=byl (putB k m)++C) (hp:p≤s.size) (h0:0≤k) (h1:k<256 ^ (Oct.sz m)) (h2:Oct.sz m≤4) :
  Oct.takeRes s p false (Oct.sz m:Nat)=(putB k m,p+Oct.sz m,false)∧numV s p false m=k:=by
 have hl:(byl (putB k m)).length=Oct.sz m:=Oct.M.be_length _ _
 have e:=rd_take h hp (m:=(Oct.sz m:Nat)) (by rw[hl])
 have e2:(⟨(byl (putB k m)).toArray⟩:ByteArray)=putB k m:=byl_ext rfl
 rw[e2,hl] at e
 refine ⟨e,?_⟩
 unfold numV
 rw[e]
 show wrap64 (Oct.bev (Oct.M.be (Oct.sz m) (Oct.u64 k)):Nat)=k
 have h3:(256:Nat) ^ (Oct.sz m)≤256 ^ 4:=Nat.pow_le_pow_right (by decide) h2
 have h4:((256 ^ (Oct.sz m):Nat):Int)=(256:Int) ^ (Oct.sz m):=by simp
 have hk:k<4294967296:=by omega
 have h5:Oct.u64 k=k.toNat:=by unfold Oct.u64;omega
 have h6:k.toNat<256 ^ (Oct.sz m):=by
  have:((256 ^ (Oct.sz m):Nat):Int)=(256:Int) ^ (Oct.sz m):=by simp
  omega
 rw[bev_be,h5,Nat.mod_eq_of_lt h6,Oct.wrap64_small _ (by omega)]
 omega
def quadE (e:EN):ByteArray:=⟨#[e.a,e.b,e.c,e.d]⟩
def entW (e:EN):ByteArray:=putB (e.X+8192) 2++putB (e.Y+8192) 2++quadE e++varB e.blob.size++putB e.sum 4
def hdW (L:List EN):Nat→ByteArray
 |0=>varB L.length
 |k+1=>hdW L k++entW (ea L k)
def blW (L:List EN):Nat→ByteArray
 |0=>⟨#[]⟩
 |k+1=>blW L k++(ea L k).blob
def bodyW (L:List EN):ByteArray:=txtB (hdW L L.length)++putB (sumI (hdW L L.length)) 4++blW L L.length
def writeB (L:List EN):ByteArray:=⟨#[71,1]⟩++txtB (hdW L L.length)++putB (sumI (hdW L L.length)) 4++blW L L.length
structure GoodE (L:List EN):Prop where
 len:L.length≤1024
 x:∀k,k<L.length→-8192≤(ea L k).X∧(ea L k).X≤8191
 y:∀k,k<L.length→-8192≤(ea L k).Y∧(ea L k).Y≤8191
 s:∀k,k<L.length→0≤(ea L k).sum∧(ea L k).sum<4294967296
 b:∀k,k<L.length→1≤(ea L k).blob.size∧(ea L k).blob.size≤257
 ord:∀k,k+1<L.length→(ea L k).Y<(ea L (k+1)).Y∨((ea L k).Y=(ea L (k+1)).Y∧(ea L k).X<(ea L (k+1)).X)
theorem u64_of {k:Nat} (h:k<9223372036854775808):Oct.u64 (k:Int)=k:=by unfold Oct.u64;omega
theorem rd_ent {s:ByteArray} {p:Nat} {e:EN} {C:List UInt8} (h:rmd s p=byl (entW e)++C) (hp:p≤s.size) (hx : -8192≤e.X∧e.X≤8191) (hy : -8192≤e.Y∧e.Y≤8191) (hs:0≤e.sum∧e.sum<4294967296) (hb:e.blob.size≤257) :
  pt5 s p=(p+(entW e).size,false)∧prX s p=e.X+8192∧prY s p=e.Y+8192∧prQ s p=quadE e∧prZ s p=(e.blob.size:Nat)∧prS s p=e.sum:=by
 unfold entW at h
 simp only[byl_append,List.append_assoc] at h
 obtain ⟨a1,a2⟩:=rd_num h hp (by omega) (by show e.X+8192<256 ^ 2;omega) (by decide)
 obtain ⟨b1,b2⟩:=rm_step h hp
 have l1:(byl (putB (e.X+8192) 2)).length=2:=rfl
 rw[l1] at b1 b2
 have p1:pt1 s p=(p+2,false):=by unfold pt1;rw[a1];rfl
 obtain ⟨c1,c2⟩:=rd_num b1 b2 (by omega) (by show e.Y+8192<256 ^ 2;omega) (by decide)
 obtain ⟨d1,d2⟩:=rm_step b1 b2
 have l2:(byl (putB (e.Y+8192) 2)).length=2:=rfl
 rw[l2] at d1 d2
 have p2:pt2 s p=(p+2+2,false):=by unfold pt2;rw[p1];show (Oct.takeRes s (p+2) false _).2=_;rw[c1];rfl
 have l3:(byl (quadE e)).length=4:=rfl
 have e1:=rd_take d1 d2 (m:=4) rfl
 obtain ⟨f1,f2⟩:=rm_step d1 d2
 rw[l3] at f1 f2 e1
 have p3:pt3 s p=(p+2+2+4,false):=by unfold pt3;rw[p2];show (Oct.takeRes s (p+2+2) false _).2=_;rw[e1]
 have hz:Oct.u64 (e.blob.size:Nat)=e.blob.size:=u64_of (by omega)
 rw[byl_var,hz] at f1
 have g1:=rd_var f1 (by omega)
 obtain ⟨k1,k2⟩:=rm_step f1 f2
 have p4:pt4 s p=(p+2+2+4+(Oct.M.leb e.blob.size).length,false):=by unfold pt4;rw[p3];show (Oct.varRes s (p+2+2+4) false).2=_;rw[g1]
 obtain ⟨m1,m2⟩:=rd_num k1 k2 hs.1 (by show e.sum<256 ^ 4;omega) (by decide)
 have p5:pt5 s p=(p+2+2+4+(Oct.M.leb e.blob.size).length+4,false):=by
  unfold pt5;rw[p4];show (Oct.takeRes s _ false _).2=_;rw[m1];rfl
 have sz:(entW e).size=2+2+4+(Oct.M.leb e.blob.size).length+4:=by
  unfold entW
  simp only[ByteArray.size_append,putB_sz,sz2,sz4]
  have:(varB (e.blob.size:Nat)).size=(Oct.M.leb e.blob.size).length:=by
   show (Oct.M.leb (Oct.u64 (e.blob.size:Nat))).length=_
   rw[hz]
  rw[this];rfl
 refine ⟨by rw[p5,sz];simp only[Prod.mk.injEq,and_true];omega,a2,?_,?_,?_,?_⟩
 ·unfold prY;rw[p1];exact c2
 ·unfold prQ;rw[p2];show (Oct.takeRes s (p+2+2) false 4).1=_;rw[e1];exact byl_ext rfl
 ·unfold prZ;rw[p3];show (Oct.varRes s (p+2+2+4) false).1=_;rw[g1]
 ·unfold prS;rw[p4];exact m2
theorem hdW_more (L:List EN) (k:Nat):∀d,∃R,byl (hdW L (k+d))=byl (hdW L k)++R
 |0=>⟨[],by simp⟩
 |d+1=>by
  obtain ⟨R,h⟩:=hdW_more L k d
  refine ⟨R++byl (entW (ea L (k+d))),?_⟩
  show byl (hdW L (k+d)++entW (ea L (k+d)))=_
  rw[byl_append,h,List.append_assoc]
theorem hdW_at (L:List EN) {k:Nat} (h:k<L.length):∃R,rmd (hdW L L.length) (hdW L k).size=byl (entW (ea L k))++R:=by
 obtain ⟨R,e⟩:=hdW_more L (k+1) (L.length-(k+1))
 rw[show k+1+(L.length-(k+1))=L.length by omega] at e
 refine ⟨R,?_⟩
 unfold rmd
 rw[e]
 show List.drop _ (byl (hdW L k++entW (ea L k))++R)=_
 rw[byl_append,List.append_assoc,←byl_len,List.drop_left]
theorem hdW_mono (L:List EN) {k:Nat} (h:k≤L.length):(hdW L k).size≤(hdW L L.length).size:=by
 obtain ⟨R,e⟩:=hdW_more L k (L.length-k)
 rw[show k+(L.length-k)=L.length by omega] at e
 have:=congrArg List.length e
 rw[List.length_append,byl_len,byl_len] at this
 omega
section
variable {L:List EN} (g:GoodE L)
include g
theorem w_n:Oct.varRes (hdW L L.length) 0 false=(((L.length:Nat):Int),(hdW L 0).size,false):=by
 obtain ⟨R,e⟩:=hdW_more L 0 L.length
 rw[Nat.zero_add] at e
 have hl:=g.len
 have h1:rmd (hdW L L.length) 0=Oct.M.leb L.length++R:=by
  rw[rm_zero,e]
  show Oct.M.leb (Oct.u64 (L.length:Nat))++R=_
  rw[u64_of (by omega)]
 rw[rd_var h1 (by omega),Nat.zero_add]
 have:(hdW L 0).size=(Oct.M.leb L.length).length:=by
  show (Oct.M.leb (Oct.u64 (L.length:Nat))).length=_
  rw[u64_of (by omega)]
 rw[this]
theorem w_posn:∀k,k≤L.length→posn (hdW L L.length) k=(hdW L k).size
 |0,_=>by
  show (Oct.varRes (hdW L L.length) 0 false).2.1=_
  rw[w_n g]
 |k+1,hk=>by
  obtain ⟨R,e⟩:=hdW_at L (show k<L.length by omega)
  show (pt5 (hdW L L.length) (posn (hdW L L.length) k)).1=_
  rw[w_posn k (by omega),(rd_ent e (hdW_mono L (by omega)) (g.x k hk) (g.y k hk) (g.s k hk) (g.b k hk).2).1]
  show _=(hdW L k++entW (ea L k)).size
  rw[ByteArray.size_append]
theorem w_ent {k:Nat} (hk:k<L.length):pt5 (hdW L L.length) (posn (hdW L L.length) k)=((hdW L (k+1)).size,false)∧prX (hdW L L.length) (posn (hdW L L.length) k)=(ea L k).X+8192∧prY (hdW L L.length) (posn (hdW L L.length) k)=(ea L k).Y+8192∧prQ (hdW L L.length) (posn (hdW L L.length) k)=quadE (ea L k)∧
  prZ (hdW L L.length) (posn (hdW L L.length) k)=((ea L k).blob.size:Nat)∧prS (hdW L L.length) (posn (hdW L L.length) k)=(ea L k).sum:=by
 obtain ⟨R,e⟩:=hdW_at L hk
 have h:=rd_ent e (hdW_mono L (by omega)) (g.x k hk) (g.y k hk) (g.s k hk) (g.b k hk).2
 rw[w_posn g k (by omega)]
 refine ⟨?_,h.2⟩
 rw[h.1]
 show _=((hdW L k++entW (ea L k)).size,false)
 rw[ByteArray.size_append]
theorem w_enE {k:Nat} (hk:k<L.length):enE (hdW L L.length) k={ea L k with blob:=ByteArray.empty}:=by
 obtain ⟨h1,h2,h3,h4,h5,h6⟩:=w_ent g hk
 unfold enE prE
 rw[h2,h3,h4,h6,show (ea L k).X+8192-8192=(ea L k).X by omega,show (ea L k).Y+8192-8192=(ea L k).Y by omega]
 rfl
theorem w_szE {k:Nat} (hk:k<L.length):szE (hdW L L.length) k=((ea L k).blob.size:Nat):=(w_ent g hk).2.2.2.2.1
theorem w_nN:nN (hdW L L.length)=L.length∧hdBad (hdW L L.length)=false:=by
 have h:=w_n g
 have hl:=g.len
 have h1:nP (hdW L L.length)=(L.length:Nat):=by unfold nP;rw[h]
 constructor
 ·unfold nN;rw[h1];rfl
 ·unfold hdBad
  rw[h1,h]
  simp only[cond_false]
  rw[decide_eq_false (by omega:¬((L.length:Nat):Int)<0),decide_eq_false (by omega:¬((L.length:Nat):Int)>1024)];rfl
theorem w_ok {k:Nat} (hk:k<L.length):okE (hdW L L.length) k=true:=by
 obtain ⟨h1,h2,h3,h4,h5,h6⟩:=w_ent g hk
 have hx:=g.x k hk
 have hy:=g.y k hk
 have hb:=g.b k hk
 refine okE_t ?_ ?_
 ·unfold bad1 bd3 bd2 bd1
  rw[h1,h2,h3,h5,decide_eq_false (by omega),decide_eq_false (by omega),decide_eq_false (by omega),decide_eq_false (by omega)];rfl
 ·unfold bad2
  by_cases h0:((k:Nat):Int)>0
  ·have ho:=g.ord (k-1) (by omega)
   rw[show k-1+1=k by omega] at ho
   rw[decide_eq_true h0,w_enE g hk,w_enE g (show k-1<L.length by omega)]
   show (!lesB (ea L (k-1)).X (ea L (k-1)).Y (ea L k).X (ea L k).Y)=false
   have:lesB (ea L (k-1)).X (ea L (k-1)).Y (ea L k).X (ea L k).Y=true:=decide_eq_true ho
   rw[this];rfl
  ·rw[decide_eq_false h0];rfl
theorem w_parse:parseB (hdW L L.length)=true:=by
 obtain ⟨h1,h2⟩:=w_nN g
 refine parse_y h2 (fun j hj=>w_ok g (by omega)) (decide_eq_false ?_)
 rw[h1,w_posn g _ (Nat.le_refl _)]
 omega
theorem w_tot:∀k,k≤L.length→tot (hdW L L.length) k=((blW L k).size:Nat)
 |0,_=>rfl
 |k+1,hk=>by
  show tot (hdW L L.length) k+szE (hdW L L.length) k=_
  rw[w_tot k (by omega),w_szE g hk]
  show _=(((blW L k++(ea L k).blob).size:Nat):Int)
  rw[ByteArray.size_append];omega
end
theorem cut_magic (t:ByteArray):cutP (⟨#[71,1]⟩++t) ⟨#[71,1]⟩=(t,true):=by
 have hs:(⟨#[71,1]⟩++t:ByteArray).size=2+t.size:=by rw[ByteArray.size_append];rfl
 have e0:((⟨#[71,1]⟩:ByteArray)).size=2:=rfl
 have h:hasP (⟨#[71,1]⟩++t) ⟨#[71,1]⟩=true:=by
  unfold hasP
  rw[decide_eq_true (by rw[hs,e0];omega)]
  have:(⟨#[71,1]⟩++t:ByteArray).extract 0 2=⟨#[71,1]⟩:=byl_ext (by
   rw[byl_extract,byl_append,List.drop_zero];rfl)
  show (((⟨#[71,1]⟩++t:ByteArray).extract 0 2).toList==_)=true
  rw[this];exact beq_self_eq_true _
 unfold cutP
 rw[h]
 show ((⟨#[71,1]⟩++t:ByteArray).extract 2 _,true)=_
 have:(⟨#[71,1]⟩++t:ByteArray).extract 2 (⟨#[71,1]⟩++t:ByteArray).size=t:=byl_ext (by
  rw[byl_extract,hs,byl_append]
  show List.take _ (byl t)=_
  exact List.take_of_length_le (by rw[byl_len];omega))
 rw[this]
theorem opR_magic (t:ByteArray):opR (⟨#[71,1]⟩++t)=t∧opC (⟨#[71,1]⟩++t)=true:=by unfold opR opC;rw[cut_magic];exact ⟨rfl,rfl⟩
theorem rd_text {s h:ByteArray} {p:Nat} {C:List UInt8} (e:rmd s p=byl (txtB h)++C) (hp:p≤s.size) (hh:h.size<9223372036854775808):Oct.textRes s p false=(h,p+(txtB h).size,false):=by
 rw[byl_txt,List.append_assoc] at e
 have h1:=rd_var e hh
 obtain ⟨e2,h2⟩:=rm_step e hp
 have h3:=rd_take e2 h2 (m:=(h.size:Nat)) (by rw[byl_len])
 unfold Oct.textRes
 rw[h1]
 simp only[]
 rw[h3]
 have:(⟨(byl h).toArray⟩:ByteArray)=h:=byl_ext rfl
 rw[this,byl_len]
 simp only[Bool.false_eq_true,if_false,Prod.mk.injEq,true_and,and_true]
 have:(txtB h).size=(Oct.M.leb h.size).length+h.size:=by
  rw[←byl_len,byl_txt,List.length_append,byl_len]
 omega
theorem rd_head {t h C:ByteArray} {s:ByteArray} (ht:t=txtB h++putB (sumI h) 4++C) (hh:h.size<9223372036854775808) (hs:s=⟨#[71,1]⟩++t) :
  opC s=true∧opI s=h∧ot2 s=((txtB h).size+4,false)∧opNe s=false∧opLf s=(C.size:Nat)∧opR s=t:=by
 subst hs
 obtain ⟨r1,r2⟩:=opR_magic t
 have e0:rmd t 0=byl (txtB h)++(byl (putB (sumI h) 4)++byl C):=by rw[rm_zero,ht,byl_append,byl_append,List.append_assoc]
 have h1:=rd_text e0 (Nat.zero_le _) hh
 rw[Nat.zero_add] at h1
 obtain ⟨e1,h2⟩:=rm_step e0 (Nat.zero_le _)
 rw[byl_len,Nat.zero_add] at e1 h2
 have hb:=sumI_bd h
 obtain ⟨h3,h4⟩:=rd_num e1 h2 hb.1 (by show sumI h<256 ^ 4;omega) (by decide)
 have o1:ot1 (⟨#[71,1]⟩++t)=((txtB h).size,false):=by unfold ot1;rw[r1,h1]
 have oi:opI (⟨#[71,1]⟩++t)=h:=by unfold opI;rw[r1,h1]
 have o2:ot2 (⟨#[71,1]⟩++t)=((txtB h).size+4,false):=by unfold ot2;rw[r1,o1];show (Oct.takeRes t (txtB h).size false _).2=_;rw[h3];rfl
 have os:opS (⟨#[71,1]⟩++t)=sumI h:=by unfold opS;rw[r1,o1];exact h4
 refine ⟨r2,oi,o2,?_,?_,r1⟩
 ·rw[←opNe_eq,os,oi];simp
 ·unfold opLf
  rw[r1,o2,ht]
  simp only[ByteArray.size_append,putB_sz,sz4]
  omega
end Ab
end Go.Proofs.YtpdckpifhniioaaGreat
end
section
set_option linter.unusedVariables false
set_option linter.unusedSimpArgs false
namespace Go.Proofs.YtpdckpifhniioaaGreat
open Go.RowKit
namespace Ab
theorem write_body (L:List EN):writeB L=⟨#[71,1]⟩++bodyW L:=byl_ext (by
 unfold writeB bodyW
 simp only[byl_append,List.append_assoc])
theorem entW_le (e:EN):(entW e).size≤22:=by
 unfold entW
 simp only[ByteArray.size_append,putB_sz,sz2,sz4]
 have h:=varB_le e.blob.size
 have:(quadE e).size=4:=rfl
 omega
theorem hdW_le (L:List EN):∀k,(hdW L k).size≤10+22*k
 |0=>varB_le _
 |k+1=>by
  show (hdW L k++entW (ea L k)).size≤_
  rw[ByteArray.size_append]
  have:=hdW_le L k
  have:=entW_le (ea L k)
  omega
theorem blW_more (L:List EN) (k:Nat):∀d,∃R,byl (blW L (k+d))=byl (blW L k)++R
 |0=>⟨[],by simp⟩
 |d+1=>by
  obtain ⟨R,h⟩:=blW_more L k d
  refine ⟨R++byl (ea L (k+d)).blob,?_⟩
  show byl (blW L (k+d)++(ea L (k+d)).blob)=_
  rw[byl_append,h,List.append_assoc]
section
variable {L:List EN} (g:GoodE L)
include g
theorem hdW_lt:(hdW L L.length).size<9223372036854775808:=by
 have:=hdW_le L L.length
 have:=g.len
 omega
theorem w_opT {s:ByteArray} (h:opI s=hdW L L.length):opT s=((blW L L.length).size:Nat):=by
 unfold opT
 rw[h,(w_nN g).1,w_tot g _ (Nat.le_refl _)]
theorem w_open {C s:ByteArray} (hs:s=⟨#[71,1]⟩++(txtB (hdW L L.length)++putB (sumI (hdW L L.length)) 4++C)) :
  openE s=(bif decide (((C.size:Nat):Int)<((blW L L.length).size:Nat)) then 10 else bif decide (((C.size:Nat):Int)>((blW L L.length).size:Nat)) then 11 else 0):=by
 obtain ⟨h1,h2,h3,h4,h5,h6⟩:=rd_head rfl (hdW_lt g) hs
 unfold openE
 rw[h1,h3,h4,h2,w_parse g,h5,w_opT g h2]
 rfl
theorem write_open:openE (writeB L)=0:=by
 rw[w_open g (C:=blW L L.length) (by rw[write_body];rfl)]
 rw[decide_eq_false (by omega:¬((blW L L.length).size:Int)<((blW L L.length).size:Nat))]
 rfl
theorem write_list:openL (writeB L)=L:=by
 obtain ⟨h1,h2,h3,h4,h5,h6⟩:=rd_head (t:=bodyW L) rfl (hdW_lt g) (write_body L)
 have hn:=(w_nN g).1
 apply List.ext_getElem?
 intro k
 by_cases hk:k<L.length
 ·unfold openL
  rw[h2,hn,List.getElem?_map,List.getElem?_range hk]
  simp only[Option.map_some]
  rw[w_enE g hk]
  have hb:blE (writeB L) k=(ea L k).blob:=by
   unfold blE bpos
   rw[h6,h3,h2,w_tot g k (by omega),w_szE g hk]
   have e0:(((blW L k).size:Nat):Int).toNat=(blW L k).size:=rfl
   rw[e0]
   obtain ⟨R,e⟩:=blW_more L (k+1) (L.length-(k+1))
   rw[show k+1+(L.length-(k+1))=L.length by omega] at e
   have e1:rmd (bodyW L) ((txtB (hdW L L.length)).size+4+(blW L k).size)=byl (ea L k).blob++R:=by
    unfold rmd bodyW
    rw[byl_append,e]
    show List.drop _ (byl (txtB _++putB _ 4)++(byl (blW L k++(ea L k).blob)++R))=_
    rw[byl_append,byl_append]
    have l1:(txtB (hdW L L.length)).size+4+(blW L k).size=(byl (txtB (hdW L L.length))++byl (putB (sumI (hdW L L.length)) 4)++byl (blW L k)).length:=by
     rw[List.length_append,List.length_append,byl_len,byl_len,byl_len,putB_sz,sz4]
    rw[l1,←List.append_assoc,←List.append_assoc,List.append_assoc _ (byl (ea L k).blob),List.drop_left]
   have e2:(txtB (hdW L L.length)).size+4+(blW L k).size≤(bodyW L).size:=by
    have:=congrArg List.length e1
    unfold bodyW
    have e3:=congrArg List.length e
    rw[List.length_append,byl_len,byl_len] at e3
    have:(blW L (k+1)).size=(blW L k).size+(ea L k).blob.size:=by
     show (blW L k++(ea L k).blob).size=_
     rw[ByteArray.size_append]
    simp only[ByteArray.size_append,putB_sz,sz4]
    omega
   have e4:=rd_take e1 e2 (m:=((ea L k).blob.size:Nat)) (by rw[byl_len])
   show (Oct.takeRes (bodyW L) _ false _).1=_
   rw[e4]
   exact byl_ext rfl
  have hq:L[k]? = some (ea L k):=by
   unfold ea
   rw[List.getD,List.getElem?_eq_getElem hk];rfl
  rw[hb,hq]
  rfl
 ·rw[List.getElem?_eq_none (by rw[openL_len,h2,hn];omega),List.getElem?_eq_none (by omega)]
end
def enO (e:TA):EN:=⟨e.X,e.Y,meanB e.t 0,meanB e.t 1,meanB e.t 2,meanB e.t 3,sumI (blobT e.t),blobT e.t⟩
theorem ea_map {l:List TA} {k:Nat} (h:k<l.length):ea (l.map enO) k=enO (at' l k):=by
 unfold ea at'
 simp[List.getD,h]
theorem good_goodE {l:List TA} (g:Good l):GoodE (l.map enO):=by
 refine ⟨by rw[List.length_map];exact g.len,fun k hk=>?_,fun k hk=>?_,fun k hk=>?_,fun k hk=>?_,fun k hk=>?_⟩
 all_goals rw[List.length_map] at hk
 ·rw[ea_map hk];exact ⟨(good_xy g hk).1,(good_xy g hk).2.1⟩
 ·rw[ea_map hk];exact (good_xy g hk).2.2
 ·rw[ea_map hk]
  have:=sumI_bd (blobT (at' l k).t)
  exact ⟨this.1,by show sumI _<_;omega⟩
 ·rw[ea_map hk];exact ⟨blobT_pos _,blobT_le _⟩
 ·rw[ea_map hk,ea_map (by omega)];exact g.ord k hk
end Ab
end Go.Proofs.YtpdckpifhniioaaGreat
end
section
set_option linter.unusedVariables false
set_option linter.unusedSimpArgs false
namespace Go.Proofs.YtpdckpifhniioaaGreat
open Go.RowKit
namespace Ab
attribute [local irreducible] CallOKd
def strT (s:ByteArray):Nat→UInt8:=fun i=>s.get! i
def fillS (s:ByteArray):Nat→UInt8:=fillT (s.get! 0) (s.get! 1) (s.get! 2) (s.get! 3)
def d0B (s:ByteArray):Bool:=decide (s.size=4)
def d0T (s:ByteArray):Nat→UInt8:=bif d0B s then fillS s else zT
def d1B (s:ByteArray):Bool:=decide (s.size=256)
def d1T (s:ByteArray):Nat→UInt8:=bif d1B s then strT s else zT
def d1E (s:ByteArray):Int:=bif d1B s then 0 else 11
def I170 (s:ByteArray) (k:Nat):St:=⟨[(10,iv .i64 (k:Nat)),(0,.c (.l (.v (.string s)))),(2,.c (.l (.p 0 0)))],[(0,some ⟨tl (upTo k (strT s) zT),.t 38⟩)],1,33,[0],(0)⟩
theorem get_ext (s:ByteArray) {a b j:Nat} (h:a+j<b) (hb:b≤s.size):(s.extract a b).get! j=s.get! (a+j):=by
 have h1:a+j<s.data.size:=Nat.lt_of_lt_of_le h hb
 have h2:j<(s.data.extract a b).size:=by
  rw[Array.size_extract];show j<min b s.size-a;omega
 show (s.extract a b).data[j]! = s.data[a+j]!
 rw[ByteArray.data_extract,getElem!_pos _ j h2,getElem!_pos _ (a+j) h1,Array.getElem_extract]
theorem get4 (s:ByteArray) (k j:Nat) (hj:j<4) (h:4*k+4≤s.size):(((s.extract (4*k) (4*k+4)).get! j).toNat:Int)=((strT s (4*k+j)).toNat:Nat):=by rw[get_ext s (by omega) h];rfl
theorem get4_0 (s:ByteArray) (k:Nat) (h:4*k+4≤s.size):(((s.extract (4*k) (4*k+4)).get! (Int.toNat 0)).toNat:Int)=((strT s (4*k)).toNat:Nat):=get4 s k 0 (by decide) h
theorem get4_1 (s:ByteArray) (k:Nat) (h:4*k+4≤s.size):(((s.extract (4*k) (4*k+4)).get! (Int.toNat 1)).toNat:Int)=((strT s (4*k+1)).toNat:Nat):=get4 s k 1 (by decide) h
theorem get4_2 (s:ByteArray) (k:Nat) (h:4*k+4≤s.size):(((s.extract (4*k) (4*k+4)).get! (Int.toNat 2)).toNat:Int)=((strT s (4*k+2)).toNat:Nat):=get4 s k 2 (by decide) h
theorem get4_3 (s:ByteArray) (k:Nat) (h:4*k+4≤s.size):(((s.extract (4*k) (4*k+4)).get! (Int.toNat 3)).toNat:Int)=((strT s (4*k+3)).toNat:Nat):=get4 s k 3 (by decide) h
theorem d0_t {s:ByteArray} (h:(((s.size:Nat):Int) != 4)=false):d0B s=true∧d0T s=fillS s∧s.size=4:=by
 have h1:s.size=4:=by
  have:((s.size:Nat):Int)=4:=by simpa using h
  omega
 have h2:d0B s=true:=decide_eq_true h1
 exact ⟨h2,by unfold d0T;rw[h2];rfl,h1⟩
theorem d0_f {s:ByteArray} (h:(((s.size:Nat):Int) != 4)=true):d0B s=false∧d0T s=zT:=by
 have h1:¬s.size=4:=fun e=>by rw[e] at h;exact absurd h (by decide)
 have h2:d0B s=false:=decide_eq_false h1
 exact ⟨h2,by unfold d0T;rw[h2];rfl⟩
theorem d1_t {s:ByteArray} (h:(((s.size:Nat):Int) != 256)=false):d1B s=true∧d1T s=strT s∧s.size=256:=by
 have h1:s.size=256:=by
  have:((s.size:Nat):Int)=256:=by simpa using h
  omega
 have h2:d1B s=true:=decide_eq_true h1
 exact ⟨h2,by unfold d1T;rw[h2];rfl,h1⟩
theorem d1_f {s:ByteArray} (h:(((s.size:Nat):Int) != 256)=true):d1B s=false∧d1T s=zT:=by
 have h1:¬s.size=256:=fun e=>by rw[e] at h;exact absurd h (by decide)
 have h2:d1B s=false:=decide_eq_false h1
 exact ⟨h2,by unfold d1T;rw[h2];rfl⟩
theorem fillS_of (s:ByteArray):tl (fillT (ofI ((s.get! 0).toNat:Nat)) (ofI ((s.get! 1).toNat:Nat)) (ofI ((s.get! 2).toNat:Nat)) (ofI ((s.get! 3).toNat:Nat)))=tl (fillS s):=by rw[ofI_nat,ofI_nat,ofI_nat,ofI_nat];rfl
theorem enters168:Enters Tryz.prog 168:=fun args w=>by go_simp
def cz_C168 (s:ByteArray):Cz:={
 ct:=(fun f=>match f with
 |127=>some fun _ _S ar=>match ar with | [.c (.l (.v (.string q)))]=>some {v:=ag [ub (q.get! 0),ub (q.get! 1),ub (q.get! 2),ub (q.get! 3)],rd:=[],wr:=[],nw:=0}|_=>none
 |146=>some fun _ _S ar=>match ar with | [.c (.agg [.v (.int _ a),.v (.int _ b),.v (.int _ c),.v (.int _ e)])]=>some {v:=.c (.agg (tl (fillT (ofI a) (ofI b) (ofI c) (ofI e)))),rd:=[],wr:=[],nw:=0}|_=>none
 |_=>none)
 eq:=(fun t=>match t with
 |_=>none)
 raw:=[],sym:=[],nf:=[(10,.c (.agg (tl (fillS s))))],ap:=true,off:=[],on:=[],lp:=fun _=>none,un:=0,wh:=[38]}
set_option maxRecDepth 100000 in
set_option maxHeartbeats 400000 in
theorem C168 (s:ByteArray)  (n:Nat):CallOK Tryz.prog 168 [.c (.l (.v (.string s)))] [] n (.tup [.agg (tl (d0T s)),.l (.v (.bool (d0B s)))]) [] 0:=by
 refine CallOK.any ?_ (by kernel_rfl) (by kernel_rfl) n
 refine call_ok (cx:=cz_C168 s) (nm:=[]) rfl Tryz.func168 (body:=Tryz.f168.body.getD .skip) rfl enters168 (by kernel_rfl) ?_
 apply of_eq (q:=HB ((Nat.cast s.size:Int) != 4) (0=0∧256=256∧Le (SV.tup [Cp.agg zT256,Cp.l (lb false)]) (SV.tup [Cp.agg (tl (d0T s)),Cp.l (lb (d0B s))])∧True) (CallOKd Tryz.prog 127 [] [SV.c (Cp.l (Leaf.v (Value.string s)))] [] 1 (ag [Leaf.v (Value.int IntKind.u8 (Nat.cast ((s.get! 0).toNat):Int)),Leaf.v (Value.int IntKind.u8 (Nat.cast ((s.get! 1).toNat):Int)),Leaf.v (Value.int IntKind.u8 (Nat.cast ((s.get! 2).toNat):Int)),Leaf.v (Value.int IntKind.u8 (Nat.cast ((s.get! 3).toNat):Int))]) [] 0∧CallOKd Tryz.prog 146 [] [ag [Leaf.v (Value.int IntKind.u8 (Nat.cast ((s.get! 0).toNat):Int)),Leaf.v (Value.int IntKind.u8 (Nat.cast ((s.get! 1).toNat):Int)),Leaf.v (Value.int IntKind.u8 (Nat.cast ((s.get! 2).toNat):Int)),Leaf.v (Value.int IntKind.u8 (Nat.cast ((s.get! 3).toNat):Int))]] [] 1 (ag (tl (fillT (ofI (Nat.cast ((s.get! 0).toNat):Int)) (ofI (Nat.cast ((s.get! 1).toNat):Int)) (ofI (Nat.cast ((s.get! 2).toNat):Int)) (ofI (Nat.cast ((s.get! 3).toNat):Int))))) [] 0∧Le (ag (tl (fillT (ofI (Nat.cast ((s.get! 0).toNat):Int)) (ofI (Nat.cast ((s.get! 1).toNat):Int)) (ofI (Nat.cast ((s.get! 2).toNat):Int)) (ofI (Nat.cast ((s.get! 3).toNat):Int))))) (ag (tl (fillS s)))∧0=0∧256=256∧Le (SV.tup [Cp.agg (tl (fillS s)),Cp.l (lb true)]) (SV.tup [Cp.agg (tl (d0T s)),Cp.l (lb (d0B s))])∧True)) (by kernel_rfl)
 repeat' (first|exact trivial|with_reducible apply And.intro|(with_reducible apply HB.mk)|with_reducible intro _)
 all_goals first
  |(with_reducible rfl)
  |((with_reducible exact C146I _ _ _ _ _))
  |(exact C127 _ (d0_t (by with_reducible assumption)).2.2 _)
  |((refine Le.of ?_;rw[fillS_of];done))
  |((refine Le.of ?_;rw[(d0_t (by with_reducible assumption)).1,(d0_t (by with_reducible assumption)).2.1];done))
  |((refine Le.of ?_;rw[(d0_f (by with_reducible assumption)).1,(d0_f (by with_reducible assumption)).2,←zT256_eq];done))
def cz_R170 (s:ByteArray) (k:Nat):Cz:={
 ct:=(fun f=>match f with
 |_=>none)
 eq:=(fun t=>match t with
 |_=>none)
 raw:=[],sym:=[0,22,24,26,28,30],nf:=[(19,.c (.l (.v (.string (s.extract (4*k) (4*k+4)))))),(22,iv .u8 ((strT s (4*k)).toNat:Nat)),(24,iv .u8 ((strT s (4*k+1)).toNat:Nat)),(26,iv .u8 ((strT s (4*k+2)).toNat:Nat)),(28,iv .u8 ((strT s (4*k+3)).toNat:Nat))],ap:=true,off:=[],on:=[],lp:=fun _=>none,un:=0}
set_option maxRecDepth 100000 in
theorem R170 (s:ByteArray) (k:Nat)  (K:Exit→St→Prop) (h:HB (decide ((Nat.cast k:Int)<64)) (IntKind.i64.wrap (4*(Nat.cast k:Int))=4*(Nat.cast k:Int)∧IntKind.i64.wrap (4*(Nat.cast k:Int))=4*(Nat.cast k:Int)∧IntKind.i64.wrap (4*(Nat.cast k:Int)+4)=4*(Nat.cast k:Int)+4∧SlOK (4*(Nat.cast k:Int)) (4*(Nat.cast k:Int)+4) (Nat.cast s.size:Int)∧Le (SV.c (Cp.l (Leaf.v (Value.string (s.extract (4*(Nat.cast k:Int)).toNat (4*(Nat.cast k:Int)+4).toNat))))) (SV.c (Cp.l (Leaf.v (Value.string (s.extract (4*k) (4*k+4))))))∧InR 0 (s.extract (4*k) (4*k+4)).size∧Le (iv IntKind.u8 (Nat.cast (((s.extract (4*k) (4*k+4)).get! (Int.toNat 0)).toNat):Int)) (iv IntKind.u8 (Nat.cast ((strT s (4*k)).toNat):Int))∧InR 1 (s.extract (4*k) (4*k+4)).size∧Le (iv IntKind.u8 (Nat.cast (((s.extract (4*k) (4*k+4)).get! (Int.toNat 1)).toNat):Int)) (iv IntKind.u8 (Nat.cast ((strT s (4*k+1)).toNat):Int))∧InR 2 (s.extract (4*k) (4*k+4)).size∧Le (iv IntKind.u8 (Nat.cast (((s.extract (4*k) (4*k+4)).get! (Int.toNat 2)).toNat):Int)) (iv IntKind.u8 (Nat.cast ((strT s (4*k+2)).toNat):Int))∧InR 3 (s.extract (4*k) (4*k+4)).size∧Le (iv IntKind.u8 (Nat.cast (((s.extract (4*k) (4*k+4)).get! (Int.toNat 3)).toNat):Int)) (iv IntKind.u8 (Nat.cast ((strT s (4*k+3)).toNat):Int))∧InR ((Nat.cast k:Int)) 64∧0+((Nat.cast k:Int)).toNat*4+4≤256∧IntKind.i64.wrap ((Nat.cast k:Int)+1)=(Nat.cast k:Int)+1∧RoundTo Tryz.prog ((getLoop 4 (Tryz.f170.body.getD Code.skip)).getD Code.skip) 1 (wkK 1 K) (St.mk [(0,SV.c (Cp.l (Leaf.v (Value.string s)))),(2,SV.c (Cp.l (Leaf.p 0 0))),(10,iv IntKind.i64 ((Nat.cast k:Int)+1))] [(0,some (Blk.mk (splice (tl (upTo k (strT s) zT)) (0+((Nat.cast k:Int)).toNat*4) [Leaf.v (Value.int IntKind.u8 (Nat.cast ((strT s (4*k)).toNat):Int)),Leaf.v (Value.int IntKind.u8 (Nat.cast ((strT s (4*k+1)).toNat):Int)),Leaf.v (Value.int IntKind.u8 (Nat.cast ((strT s (4*k+2)).toNat):Int)),Leaf.v (Value.int IntKind.u8 (Nat.cast ((strT s (4*k+3)).toNat):Int))]) (BT.t 38)))] 1 33 [0,0] 0)) (wkK 1 K (Exit.exit 0) (St.mk [(0,SV.c (Cp.l (Leaf.v (Value.string s)))),(2,SV.c (Cp.l (Leaf.p 0 0))),(10,iv IntKind.i64 (Nat.cast k:Int))] [(0,some (Blk.mk (tl (upTo k (strT s) zT)) (BT.t 38)))] 1 33 [0] 0))):WPL Tryz.prog ((getLoop 4 (Tryz.f170.body.getD .skip)).getD .skip) (I170 s k) (wkK 1 K):=
 wp_roundT [0,2,10] [0] (cx:=cz_R170 s k) rfl (of_eq (by kernel_rfl) h)
set_option maxRecDepth 100000 in
set_option maxHeartbeats 4000000 in
theorem L170 (s:ByteArray) (hs:s.size=256):∀(m k:Nat),64-k=m→k≤64→∀(K:Exit→St→Prop),K (.exit 0) (I170 s 64)→WPL Tryz.prog ((getLoop 4 (Tryz.f170.body.getD .skip)).getD .skip) (I170 s k) (wkK 1 K)
 |0,k,hm,hk,K,hK=>by
  have e:k=64:=by omega
  subst e
  refine R170 s _ K (HB.mk (fun hne=>absurd (of_decide_eq_true hne) (by omega)) (fun he=>?_))
  exact wkK.to (I170 s _) (Nat.le_refl _) (by kernel_rfl) (wkE_cons (LeN.sl (by kernel_rfl) rfl) (wkE_cons (LeN.sl (by kernel_rfl) rfl) (wkE_cons (LeN.sl (by kernel_rfl) rfl) trivial))) (wkH_cons (BkN.plain (cs:=tl (upTo 64 (strT s) zT)) (b:=.t 38) (by kernel_rfl) (rfl) (plain_tl _) (by kernel_rfl)) trivial) hK
 |m+1,k,hm,hk,K,hK=>by
  refine R170 s k K (HB.mk (fun hne=>?_) (fun he=>absurd (show ((k:Nat):Int)<(64:Nat) by omega) (of_decide_eq_false he)))
  have hlt:k<64:=by omega
  repeat' (first|exact trivial|with_reducible apply And.intro|(with_reducible apply HB.mk)|with_reducible intro _)
  all_goals first
   |(exact ⟨by omega,by omega⟩)
   |((refine ⟨by omega,?_⟩;rw[ByteArray.size_extract];omega))
   |((refine Le.of ?_;rw[show (4*((k:Nat):Int)).toNat=4*k by omega,show (4*((k:Nat):Int)+4).toNat=4*k+4 by omega];done))
   |((with_reducible refine Le.int (get4_0 s k ?_);omega))
   |((with_reducible refine Le.int (get4_1 s k ?_);omega))
   |((with_reducible refine Le.int (get4_2 s k ?_);omega))
   |((with_reducible refine Le.int (get4_3 s k ?_);omega))
   |(omega)
   |((with_reducible refine RoundTo.toN 1 (I170 s (k+1)) ?_ ?_ ?_ ?_ ?_);exact Nat.le_refl _;kernel_rfl;exact (wkE_cons (LeN.sl (by kernel_rfl) rfl) (wkE_cons (LeN.sl (by kernel_rfl) rfl) (wkE_cons (LeN.sl (by kernel_rfl) rfl) trivial)));exact (wkH_cons (BkN.plain (cs:=splice (tl (upTo k (strT s) zT)) (0+k*4) [ub (strT s (4*k)),ub (strT s (4*k+1)),ub (strT s (4*k+2)),ub (strT s (4*k+3))]) (b:=.t 38) (by kernel_rfl) (by rw[Nat.zero_add,upTo_set k _ _ hlt]) (plain_tl _) (by kernel_rfl)) trivial);exact (L170 s hs m (k+1) (by omega) (by omega) K hK))
   |(exact okw _ (by omega) (by omega))
theorem enters170:Enters Tryz.prog 170:=fun args w=>by go_simp
def cz_C170 (s:ByteArray):Cz:={
 ct:=(fun f=>match f with
 |_=>none)
 eq:=(fun t=>match t with
 |_=>none)
 raw:=[],sym:=[],nf:=[(32,.c (.agg (tl (strT s))))],ap:=true,off:=[],on:=[],lp:=fun r=>match r with|4=>some (fun _ K=>K (.exit 0) (I170 s 64))|_=>none,un:=0,wh:=[38]}
set_option maxRecDepth 100000 in
set_option maxHeartbeats 400000 in
theorem C170 (s:ByteArray)  (n:Nat):CallOK Tryz.prog 170 [.c (.l (.v (.string s)))] [] n (.tup [.agg (tl (d1T s)),.l (li (d1E s))]) [] 0:=by
 refine CallOK.any ?_ (by kernel_rfl) (by kernel_rfl) n
 refine call_ok (cx:=cz_C170 s) (nm:=[]) rfl Tryz.func170 (body:=Tryz.f170.body.getD .skip) rfl enters170 (by kernel_rfl) ?_
 apply of_eq (q:=HB ((Nat.cast s.size:Int) != 256) (0=0∧256=256∧Le (SV.tup [Cp.agg zT256,Cp.l (li 11)]) (SV.tup [Cp.agg (tl (d1T s)),Cp.l (li (d1E s))])∧True) ((LoopOK Tryz.prog ((getLoop 4 (Tryz.f170.body.getD .skip)).getD .skip) (St.mk [(10,iv IntKind.i64 0),(8,bv ((Nat.cast s.size:Int) != 256)),(7,iv IntKind.i64 (Nat.cast s.size:Int)),(6,SV.c (Cp.l (Leaf.v (Value.string s)))),(3,iv IntKind.i64 0),(2,SV.c (Cp.l (Leaf.p 0 0))),(0,SV.c (Cp.l (Leaf.v (Value.string s))))] [(0,some (Blk.mk zT256 (BT.t 38)))] 1 33 [0] 0) fun K=>K (Exit.exit 0) (I170 s 64))∧Le (ag (List.take 256 (tl (upTo 64 (strT s) zT)))) (ag (tl (strT s)))∧0=0∧256=256∧Le (SV.tup [Cp.agg (tl (strT s)),Cp.l (li 0)]) (SV.tup [Cp.agg (tl (d1T s)),Cp.l (li (d1E s))])∧True)) (by kernel_rfl)
 repeat' (first|exact trivial|with_reducible apply And.intro|(with_reducible apply HB.mk)|with_reducible intro _)
 all_goals first
  |(with_reducible rfl)
  |(exact LoopOK.mk (I170 s 0) rfl (by kernel_rfl) (wkE_cons (LeN.sl (by kernel_rfl) rfl) (wkE_cons (LeN.sl (by kernel_rfl) rfl) (wkE_cons (LeN.sl (by kernel_rfl) rfl) trivial))) (wkH_cons (BkN.plain (cs:=zT256) (b:=.t 38) (by kernel_rfl) (by rw[upTo_none];exact zT256_eq) (plain_tl _) (by kernel_rfl)) trivial) (fun K hT=>L170 s (d1_t (by with_reducible assumption)).2.2 _ 0 rfl (by decide) K hT))
  |((refine Le.of ?_;rw[upTo_all,tl_take];done))
  |((refine Le.of ?_;unfold d1E;rw[(d1_t (by with_reducible assumption)).1,(d1_t (by with_reducible assumption)).2.1];rfl))
  |((refine Le.of ?_;unfold d1E;rw[(d1_f (by with_reducible assumption)).1,(d1_f (by with_reducible assumption)).2,←zT256_eq];rfl))
theorem d1E_eq (s:ByteArray):(d1E s==0)=d1B s:=by unfold d1E;cases d1B s<;>rfl
theorem enters169:Enters Tryz.prog 169:=fun args w=>by go_simp
def cz_C169 (s:ByteArray):Cz:={
 ct:=(fun f=>match f with
 |170=>some fun _ _S ar=>match ar with | [.c (.l (.v (.string q)))]=>some {v:=.tup [.agg (tl (d1T q)),.l (li (d1E q))],rd:=[],wr:=[],nw:=0}|_=>none
 |_=>none)
 eq:=(fun t=>match t with
 |_=>none)
 raw:=[],sym:=[],nf:=[(11,.c (.agg (tl (d1T s)))),(13,bv (d1B s))],ap:=true,off:=[],on:=[],lp:=fun _=>none,un:=0,wh:=[38]}
set_option maxRecDepth 100000 in
set_option maxHeartbeats 400000 in
theorem C169 (s:ByteArray)  (n:Nat):CallOK Tryz.prog 169 [.c (.l (.v (.string s)))] [] n (.tup [.agg (tl (d1T s)),.l (.v (.bool (d1B s)))]) [] 0:=by
 refine CallOK.any ?_ (by kernel_rfl) (by kernel_rfl) n
 refine call_ok (cx:=cz_C169 s) (nm:=[]) rfl Tryz.func169 (body:=Tryz.f169.body.getD .skip) rfl enters169 (by kernel_rfl) ?_
 apply of_eq (q:=CallOKd Tryz.prog 170 [] [SV.c (Cp.l (Leaf.v (Value.string s)))] [] 1 (SV.tup [Cp.agg (tl (d1T s)),Cp.l (li (d1E s))]) [] 0∧0=0∧256=256∧Le (ag (List.take 256 (tl (d1T s)))) (ag (tl (d1T s)))∧Le (bv (d1E s==0)) (bv (d1B s))∧0=0∧256=256∧Le (SV.tup [Cp.agg (tl (d1T s)),Cp.l (lb (d1B s))]) (SV.tup [Cp.agg (tl (d1T s)),Cp.l (lb (d1B s))])∧True) (by kernel_rfl)
 repeat' (first|exact trivial|with_reducible apply And.intro|(with_reducible apply HB.mk)|with_reducible intro _)
 all_goals first
  |(with_reducible exact Le.refl _)
  |(with_reducible rfl)
  |((with_reducible exact C170 _ _))
  |((refine Le.of ?_;rw[tl_take];done))
  |((refine Le.bool ?_;rw[d1E_eq];done))
end Ab
end Go.Proofs.YtpdckpifhniioaaGreat
end
section
set_option linter.unusedVariables false
set_option linter.unusedSimpArgs false
namespace Go.Proofs.YtpdckpifhniioaaGreat
open Go.RowKit
namespace Ab
attribute [local irreducible] CallOKd
def d2D (s:ByteArray):ByteArray×Int:=Cod.dres (s.extract 1 s.size) 256
def d2K (s:ByteArray):Int:=((s.get! 0).toNat:Nat)
def d2N (s:ByteArray):Bool:=stB s ((d2D s).2 != 0)
def d2B (s:ByteArray):Bool:=bif decide (s.size=0) then false else bif d2N s then false else decide (d2K s<6)
def invT (k:Nat) (f:Nat→UInt8):Nat→UInt8:=Prd.til (Prd.M.unp k f 256)
def d2T (s:ByteArray):Nat→UInt8:=bif d2B s then invT (d2K s).toNat (strT (d2D s).1) else zT
def inE (k:Int):Int:=bif decide (k<6) then 0 else 1
def inT (q:ByteArray) (k:Int):Nat→UInt8:=bif decide (k<6) then invT k.toNat (strT q) else zT
theorem St_str {q:ByteArray} (h:q.size=256):Prd.St (strT q)=q:=by
 apply byl_ext
 apply List.ext_getElem?
 intro i
 unfold Prd.St
 rw[byl_mk]
 by_cases hi:i<256
 ·have h1:i<q.data.size:=by show i<q.size;omega
  rw[List.getElem?_eq_getElem (by rw[Prd.M.tab_length];exact hi),Prd.M.tab_get]
  show some (q.data[i]!)=q.data.toList[i]?
  rw[getElem!_pos q.data i h1,Array.getElem?_toList,Array.getElem?_eq_getElem h1]
 ·rw[List.getElem?_eq_none (by rw[Prd.M.tab_length];omega),List.getElem?_eq_none (by rw[byl_len];omega)]
theorem d2N_eq (s:ByteArray):((d2D s).2 != 0)=d2N s:=(stB_eq s _).symm
theorem dres_size {s:ByteArray} (h:d2N s=false):(d2D s).1.size=256:=by
 rw[←d2N_eq] at h
 have h1:(d2D s).2=0:=by simpa using h
 unfold d2D Cod.dres at h1⊢
 split at h1
 ·rename_i hh
  rw[if_pos hh]
  show (Cod.M.dec _ 256).length=256
  unfold Cod.M.dec
  exact Cod.M.rdN_len _ _ _ _
 ·simp at h1
def cz_C173x (q:ByteArray) (k:Int):Cz:={
 ct:=(fun f=>match f with
 |147=>some fun _ _S ar=>match ar with | []=>some {v:=iv .i64 6,rd:=[],wr:=[],nw:=0}|_=>none
 |_=>none)
 eq:=(fun t=>match t with
 |_=>none)
 raw:=[],sym:=[],nf:=[(13,bv false),(18,bv true),(22,bv true)],ap:=true,off:=[],on:=[],lp:=fun _=>some (fun _ _=>True),un:=0,wh:=[38]}
set_option maxRecDepth 100000 in
set_option maxHeartbeats 400000 in
theorem C173x (q:ByteArray) (k:Int) (h0:0≤k) (hk:¬k<6) (n:Nat):CallOK Tryz.prog 173 [.c (.l (.v (.string q))),iv .i64 k] [] n (.tup [.agg zT256,.l (li 1)]) [] 0:=by
 refine CallOK.any ?_ (by kernel_rfl) (by kernel_rfl) n
 refine call_ok (cx:=cz_C173x q k) (nm:=[]) rfl Tryz.func173 (body:=Tryz.f173.body.getD .skip) rfl enters173 (by kernel_rfl) ?_
 apply of_eq (q:=Le (bv (decide (k<0))) (bv false)∧((!false)=true→CallOKd Tryz.prog 147 [] [] [] 1 (iv IntKind.i64 6) [] 0∧True)∧((!false)=true→(!false)=true∧(!false)=true∧True)∧(false=false→(!false)=true)∧Le (bv (bif false then true else decide (k≥6))) (bv true)∧0=0∧256=256∧Le (SV.tup [Cp.agg zT256,Cp.l (li 1)]) (SV.tup [Cp.agg zT256,Cp.l (li 1)])∧True) (by kernel_rfl)
 repeat' (first|exact trivial|with_reducible apply And.intro|(with_reducible apply HB.mk)|with_reducible intro _)
 all_goals first
  |(assumption)
  |(with_reducible exact Le.refl _)
  |(with_reducible rfl)
  |((with_reducible exact C147 _))
  |((refine Le.bool (decide_eq_false ?_);omega))
  |((refine Le.bool ?_;show (bif false then true else decide (k≥6))=true;rw[decide_eq_true (by omega)];rfl))
  |(simp only[*,Bool.and_self,Bool.not_false,Bool.not_true];done)
theorem inv_any (q:ByteArray) (hq:q.size=256) (k:Int) (h0:0≤k) (n:Nat):CallOK Tryz.prog 173 [.c (.l (.v (.string q))),iv .i64 k] [] n (.tup [.agg (tl (inT q k)),.l (li (inE k))]) [] 0:=by
 unfold inT inE
 by_cases hk:k<6
 ·rw[decide_eq_true hk]
  have key:=C173 (strT q) k h0 hk n
  rw[St_str hq] at key
  exact key
 ·rw[decide_eq_false hk]
  have key:=C173x q k h0 hk n
  show CallOK _ _ _ _ _ (.tup [.agg (tl zT),.l (li 1)]) _ _
  rw[←zT256_eq];exact key
theorem b0_eq (b:UInt8):IntKind.i64.wrap (b.toNat:Nat)=(b.toNat:Nat):=okw _ (by have:=b.toNat_lt;omega) (by have:=b.toNat_lt;omega)
theorem toList_byl (s:ByteArray):s.toList=byl s:=by
 have h:=Oct.str_toList (byl s)
 rwa [show (⟨(byl s).toArray⟩:ByteArray)=s from byl_ext rfl] at h
theorem size0 (s:ByteArray):(s.toList==(⟨#[]⟩:ByteArray).toList)=decide (s.size=0):=by
 rw[toList_byl,toList_byl]
 by_cases h:s.size=0
 ·have:byl s=[]:=List.eq_nil_of_length_eq_zero (by rw[byl_len];exact h)
  rw[decide_eq_true h,this];rfl
 ·rw[decide_eq_false h,beq_eq_false_iff_ne]
  intro e
  apply h
  have h1:=congrArg List.length e
  rw[byl_len] at h1
  exact h1
theorem dec_any (s:ByteArray) (hs:s.size≤1000000000000000) (n:Nat):CallOK Tryz.prog 172 [.c (.l (.v (.string (s.extract 1 s.size)))),iv .i64 256] [] n (.tup [.l (.v (.string (d2D s).1)),.l (li (d2D s).2)]) [] 0:=C172 _ 256 (by decide) (by decide) (by rw[ByteArray.size_extract];omega) n
theorem d2_0 {s:ByteArray} (h:decide (s.size=0)=true):d2B s=false∧d2T s=zT:=by
 have h1:d2B s=false:=by unfold d2B;rw[h];rfl
 exact ⟨h1,by unfold d2T;rw[h1];rfl⟩
theorem d2_1 {s:ByteArray} (h:decide (s.size=0)=false) (h':d2N s=true):d2B s=false∧d2T s=zT:=by
 have h1:d2B s=false:=by unfold d2B;rw[h,h'];rfl
 exact ⟨h1,by unfold d2T;rw[h1];rfl⟩
theorem d2_2 {s:ByteArray} (h:decide (s.size=0)=false) (h':d2N s=false):(inE (d2K s)==0)=d2B s∧inT (d2D s).1 (d2K s)=d2T s:=by
 unfold d2T
 have h1:d2B s=decide (d2K s<6):=by unfold d2B;rw[h,h'];rfl
 rw[h1]
 unfold inE inT
 cases decide (d2K s<6)<;>exact ⟨rfl,rfl⟩
theorem enters171:Enters Tryz.prog 171:=fun args w=>by go_simp
def cz_C171 (s:ByteArray):Cz:={
 ct:=(fun f=>match f with
 |172=>some fun _ _S ar=>match ar with | [.c (.l (.v (.string q))),_]=>some {v:=.tup [.l (.v (.string (d2D s).1)),.l (li (d2D s).2)],rd:=[],wr:=[],nw:=0}|_=>none
 |173=>some fun _ _S ar=>match ar with | [.c (.l (.v (.string q))),.c (.l (.v (.int _ k)))]=>some {v:=.tup [.agg (tl (inT q k)),.l (li (inE k))],rd:=[],wr:=[],nw:=0}|_=>none
 |_=>none)
 eq:=(fun t=>match t with
 |_=>none)
 raw:=[],sym:=[22],nf:=[(8,bv (decide (s.size=0))),(12,.c (.l (.v (.string (s.extract 1 s.size))))),(17,bv (d2N s)),(23,iv .i64 (d2K s)),(27,.c (.agg (tl (d2T s)))),(29,bv (d2B s))],ap:=true,off:=[],on:=[],lp:=fun _=>none,un:=0,wh:=[38]}
set_option maxRecDepth 100000 in
set_option maxHeartbeats 400000 in
theorem C171 (s:ByteArray) (hs:s.size≤1000000000000000) (n:Nat):CallOK Tryz.prog 171 [.c (.l (.v (.string s)))] [] n (.tup [.agg (tl (d2T s)),.l (.v (.bool (d2B s)))]) [] 0:=by
 refine CallOK.any ?_ (by kernel_rfl) (by kernel_rfl) n
 refine call_ok (cx:=cz_C171 s) (nm:=[]) rfl Tryz.func171 (body:=Tryz.f171.body.getD .skip) rfl enters171 (by kernel_rfl) ?_
 apply of_eq (q:=Le (bv (s.toList==(ByteArray.mk #[]).toList)) (bv (decide (s.size=0)))∧HB (decide (s.size=0)) (0=0∧256=256∧Le (SV.tup [Cp.agg zT256,Cp.l (lb false)]) (SV.tup [Cp.agg (tl (d2T s)),Cp.l (lb (d2B s))])∧True) (SlOK 1 (Nat.cast s.size:Int) (Nat.cast s.size:Int)∧Le (SV.c (Cp.l (Leaf.v (Value.string (s.extract (Int.toNat 1) ((Nat.cast s.size:Int)).toNat))))) (SV.c (Cp.l (Leaf.v (Value.string (s.extract 1 s.size)))))∧CallOKd Tryz.prog 172 [] [SV.c (Cp.l (Leaf.v (Value.string (s.extract 1 s.size)))),iv IntKind.i64 256] [] 1 (SV.tup [Cp.l (Leaf.v (Value.string (d2D s).fst)),Cp.l (li (d2D s).snd)]) [] 0∧Le (bv ((d2D s).snd != 0)) (bv (d2N s))∧HB (d2N s) (0=0∧256=256∧Le (SV.tup [Cp.agg zT256,Cp.l (lb false)]) (SV.tup [Cp.agg (tl (d2T s)),Cp.l (lb (d2B s))])∧True) (InR 0 s.size∧Le (iv IntKind.i64 (IntKind.i64.wrap (Nat.cast ((s.get! (Int.toNat 0)).toNat):Int))) (iv IntKind.i64 (d2K s))∧CallOKd Tryz.prog 173 [] [SV.c (Cp.l (Leaf.v (Value.string (d2D s).fst))),iv IntKind.i64 (d2K s)] [] 1 (SV.tup [Cp.agg (tl (inT (d2D s).fst (d2K s))),Cp.l (li (inE (d2K s)))]) [] 0∧0=0∧256=256∧Le (ag (List.take 256 (tl (inT (d2D s).fst (d2K s))))) (ag (tl (d2T s)))∧Le (bv (inE (d2K s)==0)) (bv (d2B s))∧0=0∧256=256∧Le (SV.tup [Cp.agg (tl (d2T s)),Cp.l (lb (d2B s))]) (SV.tup [Cp.agg (tl (d2T s)),Cp.l (lb (d2B s))])∧True))) (by kernel_rfl)
 repeat' (first|exact trivial|with_reducible apply And.intro|(with_reducible apply HB.mk)|with_reducible intro _)
 all_goals first
  |(with_reducible exact Le.refl _)
  |(with_reducible rfl)
  |((with_reducible exact dec_any _ hs _))
  |((exact inv_any _ (dres_size (by with_reducible assumption)) _ (Int.natCast_nonneg _) _))
  |((refine Le.bool ?_;rw[size0];done))
  |(exact Le.of rfl)
  |(exact Le.bool (d2N_eq s))
  |((refine Le.int ?_;exact b0_eq _))
  |((refine Le.of ?_;rw[(d2_2 (by with_reducible assumption) (by with_reducible assumption)).2,tl_take];done))
  |((refine Le.bool ?_;rw[(d2_2 (by with_reducible assumption) (by with_reducible assumption)).1];done))
  |((refine Le.of ?_;rw[(d2_0 (by with_reducible assumption)).1,(d2_0 (by with_reducible assumption)).2,←zT256_eq];done))
  |((refine Le.of ?_;rw[(d2_1 (by with_reducible assumption) (by with_reducible assumption)).1,(d2_1 (by with_reducible assumption) (by with_reducible assumption)).2,←zT256_eq];done))
  |((have:=of_decide_eq_false (by with_reducible assumption:decide (s.size=0)=false);unfold SlOK;omega))
  |((have:=of_decide_eq_false (by with_reducible assumption:decide (s.size=0)=false);exact ⟨by omega,by omega⟩))
  |(exact Le.of rfl)
end Ab
end Go.Proofs.YtpdckpifhniioaaGreat
end
