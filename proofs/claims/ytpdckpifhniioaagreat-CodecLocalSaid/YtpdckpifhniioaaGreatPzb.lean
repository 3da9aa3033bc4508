/- Part 28 of what CodecLocal rests on. -/
import Derived.WalkKit
import Derived.ProofKit
import Derived.OpenShut
import Derived.SliceStrings
import Derived.SizedLaws
import Derived.Test.YtpdckpifhniioaaGreatPz
import Derived.Test.YtpdckpifhniioaaGreatPza
section
set_option linter.unusedVariables false
set_option linter.unusedSimpArgs false
namespace Go.Proofs.YtpdckpifhniioaaGreat
open Go.RowKit
namespace Ab
attribute [local irreducible] CallOKd
attribute [local irreducible] tl rws mdL
def LM (s:List Int):List EN:=(mdL s (mdN s)).map enO
theorem made_len4 (s:List Int):(mdL s (mdN s)).length≤1024:=Nat.le_trans (made_len s) (by decide)
theorem LM_len (s:List Int):(LM s).length=(mdL s (mdN s)).length:=mapO_len _
def kk (s:List Int) (q0:Int):Nat:=(rst q0 (mdL s (mdN s)).length).toNat
def bbl (s:List Int) (q0:Int):ByteArray:=blobT (at' (mdL s (mdN s)) (kk s q0)).t
def ii (s:List Int) (q0 q1:Int):Nat:=(rst q1 (bbl s q0).size).toNat
def dl (q2:Int):UInt8:=UInt8.ofNat (1+rst q2 255).toNat
def nv (s:List Int) (q0 q1 q2:Int):UInt8:=(bbl s q0).get! (ii s q0 q1)+dl q2
def nb (s:List Int) (q0 q1 q2:Int):ByteArray:=chB (bbl s q0) (ii s q0 q1) (nv s q0 q1 q2)
def LC (s:List Int) (q0 q1 q2:Int):List EN:=chL (mdL s (mdN s)) (kk s q0) (nb s q0 q1 q2)
def jk (s:List Int) (q0:Int) (k:Nat):Bool:=decide (k=kk s q0)
def lEs (s:List Int) (q0:Int) (k:Nat):Int:=lE (kk s q0) k
def lTs (s:List Int) (q0:Int) (k:Nat):Nat→UInt8:=lT (mdL s (mdN s)) (kk s q0) k
theorem entries_LM (s:List Int) (id n:Nat) (hi:id<n):CallOK Tryz.prog 20 [.c (.agg [.o id (mdL s (mdN s)).length])] [(id,⟨rws (mdL s (mdN s)),.r 42 258 id⟩)] n (.c (.l (.o n (mdL s (mdN s)).length))) [(n,⟨ens (LM s),.r 59 8 n⟩)] 1:=entries_any (mdL s (mdN s)) (made_good s) id n hi
theorem rst_bd {x n:Int} (h0:0<n) (h1:n≤1000000000):0≤rst x n∧rst x n<n:=⟨(rest_bd h0 h1).1,(rest_bd h0 h1).2.1⟩
theorem fct {s:List Int} (q0 q1 q2:Int) (h:((((mdL s (mdN s)).length:Nat):Int)==0)=false):0<(mdL s (mdN s)).length∧0≤rst q0 (mdL s (mdN s)).length∧rst q0 (mdL s (mdN s)).length<(mdL s (mdN s)).length∧1≤(bbl s q0).size∧(bbl s q0).size≤257∧0≤rst q1 (bbl s q0).size∧rst q1 (bbl s q0).size<(bbl s q0).size∧0≤rst q2 255∧rst q2 255<255:=by
 have h0:0<(mdL s (mdN s)).length:=by
  rcases Nat.eq_zero_or_pos (mdL s (mdN s)).length with e|e
  ·rw[e] at h;cases h
  ·exact e
 have h4:=made_len4 s
 have hk:=rst_bd (x:=q0) (n:=((mdL s (mdN s)).length:Nat)) (by omega) (by omega)
 have hb:=(goodB_of (made_good s)).2 (kk s q0) (by rw[List.length_map];unfold kk;omega)
 rw[ea_map (show kk s q0<(mdL s (mdN s)).length by unfold kk;omega)] at hb
 have hb:1≤(bbl s q0).size∧(bbl s q0).size≤257:=hb
 have hi:=rst_bd (x:=q1) (n:=((bbl s q0).size:Nat)) (by omega) (by omega)
 have hd:=rst_bd (x:=q2) (n:=255) (by decide) (by decide)
 exact ⟨h0,hk.1,hk.2,hb.1,hb.2,hi.1,hi.2,hd.1,hd.2⟩
theorem kk_lt {s:List Int} (q0:Int) (h:((((mdL s (mdN s)).length:Nat):Int)==0)=false):kk s q0<(mdL s (mdN s)).length:=by
 have:=fct q0 0 0 h
 unfold kk;omega
theorem ii_lt {s:List Int} (q0 q1:Int) (h:((((mdL s (mdN s)).length:Nat):Int)==0)=false):ii s q0 q1<(bbl s q0).size:=by
 have:=fct q0 q1 0 h
 unfold ii;omega
theorem en_blob {L:List EN} {k:Nat} (hk:k<L.length):(ens L).getD (k*8+7) .u=.v (.string (ea L k).blob):=by
 obtain ⟨m,hm⟩:=ens_drop L k hk
 rw[List.getD_eq_getElem?_getD,show k*8+7=k*8+7 from rfl,←List.getElem?_drop,hm];rfl
theorem sb_get (b:ByteArray) {i:Nat} (hi:i<b.size):(sbytes b).getD i .u=ub (b.get! i):=by
 have hi2:i<b.data.size:=hi
 have e:b.get! i=b.data[i]:=getElem!_pos b.data i hi2
 unfold sbytes
 rw[List.getD_eq_getElem?_getD,List.getElem?_map,List.getElem?_eq_getElem (by rwa [Array.length_toList]),Array.getElem_toList,←e];rfl
theorem dl_v (q2:Int):1+rst q2 255=((dl q2).toNat:Nat):=by
 have hd:=rst_bd (x:=q2) (n:=255) (by decide) (by decide)
 unfold dl
 rw[UInt8.toNat_ofNat']
 omega
theorem dl_w (q2:Int):IntKind.u8.wrap (1+rst q2 255)=((dl q2).toNat:Nat):=by
 rw[dl_v,u8wr]
 have:=(dl q2).toNat_lt
 omega
theorem dl_ne (q2:Int):(dl q2).toNat≠0:=by
 have h:=dl_v q2
 have hd:=rst_bd (x:=q2) (n:=255) (by decide) (by decide)
 omega
theorem nv_ne (s:List Int) (q0 q1 q2:Int):nv s q0 q1 q2≠(bbl s q0).get! (ii s q0 q1):=by
 intro h
 have h2:=congrArg UInt8.toNat h
 unfold nv at h2
 rw[UInt8.toNat_add] at h2
 have:=dl_ne q2
 have:=(dl q2).toNat_lt
 have:=((bbl s q0).get! (ii s q0 q1)).toNat_lt
 omega
theorem sb_set (b:ByteArray) (i:Nat) (v:UInt8):splice (sbytes b) i [ub v]=sbytes (chB b i v):=by
 show (sbytes b).set i (ub v)=_
 unfold sbytes chB
 rw[←List.map_set]
theorem strL_sb (b:ByteArray):List.take b.size (sbytes b)=sbytes b:=List.take_of_length_le (by rw[sbytes_len];exact Nat.le_refl _)
theorem sp5 (s:List Int) (q0 q1 q2:Int):splice (sbytes (bbl s q0)) (0+(rst q1 (bbl s q0).size).toNat*1) [ub (nv s q0 q1 q2)]=sbytes (nb s q0 q1 q2):=by
 rw[show (0+(rst q1 (bbl s q0).size).toNat*1)=ii s q0 q1 by show _=(rst q1 (bbl s q0).size).toNat;omega,sb_set]
 rfl
theorem sp5_len (s:List Int) (q0 q1 q2:Int):(splice (sbytes (bbl s q0)) (0+(rst q1 (bbl s q0).size).toNat*1) [ub (nv s q0 q1 q2)]).length=(bbl s q0).size:=by
 rw[sp5,sbytes_len];exact chB_size _ _ _
theorem sp5_all (s:List Int) (q0 q1 q2:Int):AllB (List.take (bbl s q0).size (List.drop 0 (splice (sbytes (bbl s q0)) (0+(rst q1 (bbl s q0).size).toNat*1) [ub (nv s q0 q1 q2)]))):=by
 rw[List.drop_zero,sp5,show (bbl s q0).size=(nb s q0 q1 q2).size from (chB_size _ _ _).symm,strL_sb]
 exact allB_sbytes _
theorem sp5_str (s:List Int) (q0 q1 q2:Int):strL (List.take (bbl s q0).size (List.drop 0 (splice (sbytes (bbl s q0)) (0+(rst q1 (bbl s q0).size).toNat*1) [ub (nv s q0 q1 q2)])))=nb s q0 q1 q2:=by
 rw[List.drop_zero,sp5,show (bbl s q0).size=(nb s q0 q1 q2).size from (chB_size _ _ _).symm,strL_sb]
 exact strL_sbytes _
theorem ens_set (L:List EN) (e:EN) (b:ByteArray) {k:Nat} (hk:k<L.length) (he:e={ea L k with blob:=b}):splice (ens L) (k*8+7) [.v (.string b)]=ens (L.set k e):=by
 subst he
 induction L generalizing k with
 |nil=>exact absurd hk (Nat.not_lt_zero k)
 |cons a L ih=>
  cases k with
  |zero=>rfl
  |succ k=>
   have h:=ih (k:=k) (by simpa using hk)
   have e1:∀(A:List EN),ens (a::A)=en a++ens A:=fun A=>rfl
   rw[List.set_cons_succ,e1,e1]
   show (en a++ens L).set _ _=_
   rw[List.set_append_right _ _ (by show 8≤_;omega),show (k+1)*8+7-(en a).length=k*8+7 by show (k+1)*8+7-8=_;omega]
   exact congrArg (en a++·) h
theorem sp4 {s:List Int} (q0 q1 q2:Int) (h:((((mdL s (mdN s)).length:Nat):Int)==0)=false):splice (ens (LM s)) ((rst q0 (mdL s (mdN s)).length).toNat*8+7) [.v (.string (nb s q0 q1 q2))]=ens (LC s q0 q1 q2):=by
 have hk:=kk_lt q0 h
 exact ens_set (k:=kk s q0) (LM s) (chE (mdL s (mdN s)) (kk s q0) (nb s q0 q1 q2)) _ (by rw[LM_len];exact hk) (by
  rw[show ea (LM s) (kk s q0)=enO (at' (mdL s (mdN s)) (kk s q0)) from ea_map hk];rfl)
theorem en_blobK {s:List Int} (q0:Int) (h:((((mdL s (mdN s)).length:Nat):Int)==0)=false):SV.c (.l ((ens (LM s)).getD ((rst q0 (mdL s (mdN s)).length).toNat*8+7) .u))=.c (.l (.v (.string (bbl s q0)))):=by
 have hk:=kk_lt q0 h
 have e:=en_blob (L:=LM s) (k:=kk s q0) (by rw[LM_len];exact hk)
 rw[show ea (LM s) (kk s q0)=enO (at' (mdL s (mdN s)) (kk s q0)) from ea_map hk] at e
 exact congrArg (fun v=>SV.c (.l v)) e
theorem sb_getI {s:List Int} (q0 q1:Int) (h:((((mdL s (mdN s)).length:Nat):Int)==0)=false):SV.c (.l ((sbytes (bbl s q0)).getD (0+(rst q1 (bbl s q0).size).toNat*1) .u))=.c (.l (ub ((bbl s q0).get! (ii s q0 q1)))):=by
 rw[show (0+(rst q1 (bbl s q0).size).toNat*1)=ii s q0 q1 by show _=(rst q1 (bbl s q0).size).toNat;omega,sb_get _ (ii_lt q0 q1 h)]
theorem nv_w (s:List Int) (q0 q1 q2:Int):IntKind.u8.wrap (((((bbl s q0).get! (ii s q0 q1)).toNat:Nat):Int)+(((dl q2).toNat:Nat):Int))=((nv s q0 q1 q2).toNat:Nat):=wadd8 _ _
theorem LC_len (s:List Int) (q0 q1 q2:Int):(LC s q0 q1 q2).length=(mdL s (mdN s)).length:=ch_len _ _ _
theorem LC_good {s:List Int} (q0 q1 q2:Int) (h:((((mdL s (mdN s)).length:Nat):Int)==0)=false):GoodE (LC s q0 q1 q2):=ch_goodE (made_good s) (kk_lt q0 h) (chB_size _ _ _)
theorem LC_ne {s:List Int} (q0 q1 q2:Int) (h:((((mdL s (mdN s)).length:Nat):Int)==0)=false):sumI (nb s q0 q1 q2)≠sumI (blobT (at' (mdL s (mdN s)) (kk s q0)).t):=chB_sum (ii_lt q0 q1 h) (nv_ne _ _ _ _)
theorem refwrite_C {s:List Int} (q0 q1 q2:Int) (h:((((mdL s (mdN s)).length:Nat):Int)==0)=false) (id n:Nat) (hi:id<n):CallOK Tryz.prog 21 [.c (.l (.o id (mdL s (mdN s)).length))] [(id,⟨splice (ens (LM s)) ((rst q0 (mdL s (mdN s)).length).toNat*8+7) [.v (.string (nb s q0 q1 q2))],.r 59 8 id⟩)] n (.c (.l (.v (.string (writeB (LC s q0 q1 q2)))))) [] 0:=by
 rw[sp4 q0 q1 q2 h,←LC_len s q0 q1 q2];exact refwrite_any _ (LC_good q0 q1 q2 h) id n hi
theorem open_C {s:List Int} (q0 q1 q2:Int) (h:((((mdL s (mdN s)).length:Nat):Int)==0)=false) (n:Nat):CallOK Tryz.prog 15 [.c (.l (.v (.string (writeB (LC s q0 q1 q2)))))] [] n (.tup [.l (.p n 0),.l (li 0)]) [(n,⟨[.o (n+1) (LC s q0 q1 q2).length,li 0],.t 125⟩),(n+1,⟨ens (LC s q0 q1 q2),.r 123 8 (n+1)⟩)] 2:=by
 have g:=LC_good q0 q1 q2 h
 have hs:(writeB (LC s q0 q1 q2)).size≤1000000000000000000:=by
  have h1:=hdW_le (LC s q0 q1 q2) (LC s q0 q1 q2).length
  have h2:=blW_le g _ (Nat.le_refl _)
  have h3:=g.len
  have h4:=txtB_le (hdW (LC s q0 q1 q2) (LC s q0 q1 q2).length) (by omega)
  unfold writeB
  simp only[ByteArray.size_append,putB_sz,sz4]
  have e2:(⟨#[71,1]⟩:ByteArray).size=2:=rfl
  omega
 have k:=open_ok _ hs (write_open g) n
 rw[write_list g] at k
 exact k
theorem jk_eq {s:List Int} {q0:Int} (h:((((mdL s (mdN s)).length:Nat):Int)==0)=false) (k:Nat):(((k:Nat):Int)==rst q0 (mdL s (mdN s)).length)=jk s q0 k:=by
 have hf:=fct q0 0 0 h
 unfold jk kk
 by_cases e:((k:Nat):Int)=rst q0 (mdL s (mdN s)).length
 ·rw[decide_eq_true (by omega)];simpa using e
 ·rw[decide_eq_false (by omega)];simpa using e
theorem jk_ne {s:List Int} {q0:Int} (h:((((mdL s (mdN s)).length:Nat):Int)==0)=false) (k:Nat):(((k:Nat):Int) != rst q0 (mdL s (mdN s)).length) = !jk s q0 k:=by
 rw[←jk_eq h];rfl
theorem lE_12 (s:List Int) (q0:Int) (k:Nat):(lEs s q0 k != 12) = !jk s q0 k:=by
 unfold lEs jk lE
 cases decide (k=kk s q0)<;>rfl
theorem lE_0 (s:List Int) (q0:Int) (k:Nat):(lEs s q0 k != 0)=jk s q0 k:=by
 unfold lEs jk lE
 cases decide (k=kk s q0)<;>rfl
theorem lT_f {s:List Int} {q0:Int} {k:Nat} (h:jk s q0 k=false):(!sameT (lsB (tl (lTs s q0 k))) (lsB (tl (at' (mdL s (mdN s)) k).t)))=false:=by
 unfold jk at h
 unfold lTs lT
 rw[h,same_lsB]
 show (!sameT (at' (mdL s (mdN s)) k).t (at' (mdL s (mdN s)) k).t)=false
 rw[(sameT_iff _ _).2 fun _ _=>rfl];rfl
theorem posC {s:List Int} (q0 q1 q2:Int) {k:Nat} (hk:k<(mdL s (mdN s)).length):List.take 2 (List.drop (k*8) (ens (LC s q0 q1 q2)))=[li (at' (mdL s (mdN s)) k).X,li (at' (mdL s (mdN s)) k).Y]:=by
 rw[ens_pos (by rw[LC_len];exact hk)]
 have e:=ch_xy (K:=kk s q0) (nb:=nb s q0 q1 q2) hk
 rw[show LC s q0 q1 q2=chL (mdL s (mdN s)) (kk s q0) (nb s q0 q1 q2) from rfl,e.1,e.2.1]
theorem tile_C {s:List Int} (q0 q1 q2:Int) (h:((((mdL s (mdN s)).length:Nat):Int)==0)=false) {k:Nat} (hk:k<(mdL s (mdN s)).length) (d:Int) (h0:0≤d) (hd:d≤1000000000) (id i n:Nat) (h1:id<n) (h2:i<n) (h3:id≠i):CallOK Tryz.prog 22 [.c (.l (.p id 0)),ag [li (at' (mdL s (mdN s)) k).X,li (at' (mdL s (mdN s)) k).Y]] [(id,⟨[.o i (LC s q0 q1 q2).length,li d],.t 125⟩),(i,⟨ens (LC s q0 q1 q2),.r 123 8 i⟩)] n (.tup [.agg (tl (lTs s q0 k)),.l (li (lEs s q0 k))]) [(id,⟨[.o i (LC s q0 q1 q2).length,li (d+1)],.t 125⟩)] 0:=by
 have g:=LC_good q0 q1 q2 h
 have hB:GoodB (LC s q0 q1 q2):=⟨g.len,g.b⟩
 have t:=tile_any (LC s q0 q1 q2) (at' (mdL s (mdN s)) k).X (at' (mdL s (mdN s)) k).Y d hB h0 hd id i n h1 h2 h3
 obtain ⟨e1,e2,e3⟩:=ch_tile (made_good s) (kk_lt q0 h) (LC_ne q0 q1 q2 h) hk
 rw[show LC s q0 q1 q2=chL (mdL s (mdN s)) (kk s q0) (nb s q0 q1 q2) from rfl] at t⊢
 rw[e1,e2,e3] at t
 exact t
theorem all_C {s:List Int} (q0 q1 q2:Int) (h:((((mdL s (mdN s)).length:Nat):Int)==0)=false) (d:Int) (h0:0≤d) (hd:d≤900000000) (id i n:Nat) (h1:id<n) (h2:i<n) (h3:id≠i):CallOK Tryz.prog 23 [.c (.l (.p id 0))] [(id,⟨[.o i (LC s q0 q1 q2).length,li d],.t 125⟩),(i,⟨ens (LC s q0 q1 q2),.r 123 8 i⟩)] n (.tup [.agg [.v (.slice none 0 0)],.l (li 12)]) [(id,⟨[.o i (LC s q0 q1 q2).length,li (d+smD (LC s q0 q1 q2) wAll)],.t 125⟩)] 0:=by
 have g:=LC_good q0 q1 q2 h
 have hB:GoodB (LC s q0 q1 q2):=⟨g.len,g.b⟩
 obtain ⟨e1,e2⟩:=ch_all (made_good s) (kk_lt q0 h) (LC_ne q0 q1 q2 h)
 have t:=all_err (LC s q0 q1 q2) d hB h0 hd e1 id i n h1 h2 h3
 rw[show smE (LC s q0 q1 q2) wAll=12 from e2] at t
 exact t
attribute [local irreducible] LM kk bbl ii dl nv nb LC jk lEs lTs
def IL5 (s:List Int) (q0 q1 q2:Int) (k:Nat):St:=⟨[(13,iv .i64 (k:Nat)),(7,.c (.l (.o 4 (mdL s (mdN s)).length))),(11,.c (.l (.p 6 0))),(8,iv .i64 (rst q0 (mdL s (mdN s)).length)),(6,.c (.l (.p 3 0))),(5,bv true)],[(2,some ⟨rws (mdL s (mdN s)),.r 42 258 2⟩),(3,some ⟨[.o 2 (mdL s (mdN s)).length],.t 26⟩),(4,some ⟨ens (LC s q0 q1 q2),.r 59 8 4⟩),(6,some ⟨[.o 7 (LC s q0 q1 q2).length,li (k:Nat)],.t 125⟩),(7,some ⟨ens (LC s q0 q1 q2),.r 123 8 7⟩)],8,126,[7,6,5,4,3,2,1],(1)⟩
def cz_RL5 (s:List Int) (q0 q1 q2:Int) (k:Nat):Cz:={
 ct:=(fun f=>match f with
 |10=>some fun _ _S ar=>match ar with | []=>some {v:=bv true,rd:=[],wr:=[],nw:=0}|_=>none
 |11=>some fun _ _S ar=>match ar with | [.c (.l _)]=>some {v:=.c (.agg [.o _S.n (mdL s (mdN s)).length]),rd:=[0],wr:=[(_S.n,⟨rws (mdL s (mdN s)),.r 42 258 _S.n⟩)],nw:=1}|_=>none
 |14=>some fun _ _S ar=>match ar with | [.c (.l (.v (.int _ x))),.c (.l (.v (.int _ n)))]=>some {v:=iv .i64 (rst x n),rd:=[],wr:=[],nw:=0}|_=>none
 |15=>some fun _ _S ar=>match ar with | [.c (.l (.v (.string q)))]=>some {v:=.tup [.l (.p _S.n 0),.l (li 0)],rd:=[],wr:=[(_S.n,⟨[.o (_S.n+1) (LC s q0 q1 q2).length,li 0],.t 125⟩),(_S.n+1,⟨ens (LC s q0 q1 q2),.r 123 8 (_S.n+1)⟩)],nw:=2}|_=>none
 |20=>some fun _ _S ar=>match ar with | [.c (.agg [.o i _])]=>some {v:=.c (.l (.o _S.n (mdL s (mdN s)).length)),rd:=[i],wr:=[(_S.n,⟨ens (LM s),.r 59 8 _S.n⟩)],nw:=1}|_=>none
 |21=>some fun _ _S ar=>match ar with | [.c (.l (.o i _))]=>some {v:=.c (.l (.v (.string (writeB (LC s q0 q1 q2))))),rd:=[i],wr:=[],nw:=0}|_=>none
 |22=>some fun _ _S ar=>match ar with | [.c (.l (.p i _)),_]=>some {v:=.tup [.agg (tl (lTs s q0 k)),.l (li (lEs s q0 k))],rd:=[i,i+1],wr:=[(i,⟨[.o (i+1) (LC s q0 q1 q2).length,li ((k:Nat)+1)],.t 125⟩)],nw:=0}|_=>none
 |_=>none)
 eq:=(fun t=>match t with
 |38=>some (fun xs ys=>sameT (lsB xs) (lsB ys))
 |_=>none)
 raw:=[],sym:=[84,86,109,111],nf:=[(86,ag [li (at' (mdL s (mdN s)) k).X,li (at' (mdL s (mdN s)) k).Y]),(92,bv (jk s q0 k)),(95,bv (!jk s q0 k)),(96,bv false),(100,bv (!jk s q0 k)),(103,bv (jk s q0 k)),(105,.c (.agg (tl (lTs s q0 k)))),(111,.c (.agg (tl (at' (mdL s (mdN s)) k).t))),(112,bv false),(113,bv (jk s q0 k)),(114,bv false),(115,bv false)],ap:=true,off:=[],on:=[],lp:=fun _=>none,un:=0,wh:=[38]}
set_option maxRecDepth 100000 in
theorem RL5 (s:List Int) (q0 q1 q2:Int) (k:Nat)  (K:Exit→St→Prop) (h:HB (decide ((Nat.cast k:Int)<(Nat.cast ((mdL s (mdN s)).length):Int))) (InR ((Nat.cast k:Int)) (mdL s (mdN s)).length∧((Nat.cast k:Int)).toNat*8+0+2≤(ens (LC s q0 q1 q2)).length∧Le (ag (List.take 2 (List.drop (((Nat.cast k:Int)).toNat*8+0) (ens (LC s q0 q1 q2))))) (ag [li (at' (mdL s (mdN s)) k).X,li (at' (mdL s (mdN s)) k).Y])∧CallOKd Tryz.prog 22 [] [SV.c (Cp.l (Leaf.p 6 0)),ag [li (at' (mdL s (mdN s)) k).X,li (at' (mdL s (mdN s)) k).Y]] [(6,Blk.mk [Leaf.o 7 (LC s q0 q1 q2).length,li (Nat.cast k:Int)] (BT.t 125)),(7,Blk.mk (ens (LC s q0 q1 q2)) (BT.r 123 8 7))] 8 (SV.tup [Cp.agg (tl (lTs s q0 k)),Cp.l (li (lEs s q0 k))]) [(6,Blk.mk [Leaf.o 7 (LC s q0 q1 q2).length,li ((Nat.cast k:Int)+1)] (BT.t 125))] 0∧0=0∧256=256∧Le (bv ((Nat.cast k:Int)==rst q0 (Nat.cast ((mdL s (mdN s)).length):Int))) (bv (jk s q0 k))∧(jk s q0 k=true→jk s q0 k=true∧Le (bv (lEs s q0 k != 12)) (bv !jk s q0 k)∧True)∧(jk s q0 k=true→jk s q0 k=true)∧Le (bv (bif jk s q0 k then !jk s q0 k else false)) (bv false)∧((!false)=true→(!false)=true∧(!false)=true∧Le (bv ((Nat.cast k:Int) != rst q0 (Nat.cast ((mdL s (mdN s)).length):Int))) (bv !jk s q0 k)∧True)∧((!false)=true→(!false)=true∧True)∧((!false && !jk s q0 k)=true→(!false && !jk s q0 k)=true∧Le (bv (lEs s q0 k != 0)) (bv (jk s q0 k))∧True)∧((!false && !jk s q0 k)=true→(!false && !jk s q0 k)=true∧True)∧((!false && !jk s q0 k && !jk s q0 k)=true→Le (ag (List.take 256 (tl (lTs s q0 k)))) (ag (tl (lTs s q0 k)))∧True)∧((!false && !jk s q0 k && !jk s q0 k)=true→(!false && !jk s q0 k && !jk s q0 k)=true∧True)∧((!false && !jk s q0 k && !jk s q0 k)=true→(!false && !jk s q0 k && !jk s q0 k)=true∧(!false && !jk s q0 k && !jk s q0 k)=true∧InR ((Nat.cast k:Int)) (mdL s (mdN s)).length∧True)∧((!false && !jk s q0 k && !jk s q0 k)=true→(!false && !jk s q0 k && !jk s q0 k)=true∧True)∧((!false && !jk s q0 k && !jk s q0 k)=true→(!false && !jk s q0 k && !jk s q0 k)=true∧((Nat.cast k:Int)).toNat*258+2+256≤(rws (mdL s (mdN s))).length∧Le (ag (List.take 256 (List.drop (((Nat.cast k:Int)).toNat*258+2) (rws (mdL s (mdN s)))))) (ag (tl (at' (mdL s (mdN s)) k).t))∧True)∧((!false && !jk s q0 k && !jk s q0 k)=true→(!false && !jk s q0 k && !jk s q0 k)=true∧(!false && !jk s q0 k && !jk s q0 k)=true∧EqOK Tryz.prog 38 (tl (lTs s q0 k)) (tl (at' (mdL s (mdN s)) k).t) (sameT (lsB (tl (lTs s q0 k))) (lsB (tl (at' (mdL s (mdN s)) k).t)))∧Le (bv !sameT (lsB (tl (lTs s q0 k))) (lsB (tl (at' (mdL s (mdN s)) k).t))) (bv false)∧True)∧((!false && !jk s q0 k)=true→(!false && !jk s q0 k)=true∧(jk s q0 k=false→(!false && !jk s q0 k && !jk s q0 k)=true)∧Le (bv (bif jk s q0 k then true else false)) (bv (jk s q0 k))∧True)∧((!false)=true→(!false)=true∧((!jk s q0 k)=true→(!false && !jk s q0 k)=true)∧Le (bv (bif !jk s q0 k then jk s q0 k else false)) (bv false)∧True)∧(false=false→(!false)=true)∧Le (bv (bif false then true else false)) (bv false)∧IntKind.i64.wrap ((Nat.cast k:Int)+1)=(Nat.cast k:Int)+1∧RoundTo Tryz.prog ((getLoop 15 (Tryz.f5.body.getD Code.skip)).getD Code.skip) 8 (wkK 8 K) (St.mk [(5,bv true),(6,SV.c (Cp.l (Leaf.p 3 0))),(7,SV.c (Cp.l (Leaf.o 4 (mdL s (mdN s)).length))),(8,iv IntKind.i64 (rst q0 (Nat.cast ((mdL s (mdN s)).length):Int))),(11,SV.c (Cp.l (Leaf.p 6 0))),(13,iv IntKind.i64 ((Nat.cast k:Int)+1))] [(2,some (Blk.mk (rws (mdL s (mdN s))) (BT.r 42 258 2))),(3,some (Blk.mk [Leaf.o 2 (mdL s (mdN s)).length] (BT.t 26))),(4,some (Blk.mk (ens (LC s q0 q1 q2)) (BT.r 59 8 4))),(6,some (Blk.mk [Leaf.o 7 (LC s q0 q1 q2).length,li ((Nat.cast k:Int)+1)] (BT.t 125))),(7,some (Blk.mk (ens (LC s q0 q1 q2)) (BT.r 123 8 7))),(8,some (Blk.mk (tl (lTs s q0 k)) (BT.t 38)))] 9 126 [8,8,6,7,6,5,4,3,2,1] 1)) (wkK 8 K (Exit.exit 0) (St.mk [(5,bv true),(6,SV.c (Cp.l (Leaf.p 3 0))),(7,SV.c (Cp.l (Leaf.o 4 (mdL s (mdN s)).length))),(8,iv IntKind.i64 (rst q0 (Nat.cast ((mdL s (mdN s)).length):Int))),(11,SV.c (Cp.l (Leaf.p 6 0))),(13,iv IntKind.i64 (Nat.cast k:Int))] [(2,some (Blk.mk (rws (mdL s (mdN s))) (BT.r 42 258 2))),(3,some (Blk.mk [Leaf.o 2 (mdL s (mdN s)).length] (BT.t 26))),(4,some (Blk.mk (ens (LC s q0 q1 q2)) (BT.r 59 8 4))),(6,some (Blk.mk [Leaf.o 7 (LC s q0 q1 q2).length,li (Nat.cast k:Int)] (BT.t 125))),(7,some (Blk.mk (ens (LC s q0 q1 q2)) (BT.r 123 8 7))),(8,none)] 8 126 [7,6,5,4,3,2,1] 1))):WPL Tryz.prog ((getLoop 15 (Tryz.f5.body.getD .skip)).getD .skip) (IL5 s q0 q1 q2 k) (wkK 8 K):=
 wp_roundT [5,6,7,8,11,13] [2,3,4,6,7,8] (cx:=cz_RL5 s q0 q1 q2 k) rfl (of_eq (by kernel_rfl) h)
set_option maxRecDepth 100000 in
set_option maxHeartbeats 4000000 in
theorem LL5 (s:List Int) (q0 q1 q2:Int) (h0:((((mdL s (mdN s)).length:Nat):Int)==0)=false):∀(m k:Nat),(mdL s (mdN s)).length-k=m→k≤(mdL s (mdN s)).length→∀(K:Exit→St→Prop),K (.exit 0) (IL5 s q0 q1 q2 (mdL s (mdN s)).length)→WPL Tryz.prog ((getLoop 15 (Tryz.f5.body.getD .skip)).getD .skip) (IL5 s q0 q1 q2 k) (wkK 8 K)
 |0,k,hm,hk,K,hK=>by
  have e:k=(mdL s (mdN s)).length:=by omega
  subst e
  refine RL5 s q0 q1 q2 _ K (HB.mk (fun hne=>absurd (of_decide_eq_true hne) (by omega)) (fun he=>?_))
  exact wkK.to (IL5 s q0 q1 q2 _) (Nat.le_refl _) (by kernel_rfl) (wkE_cons (LeN.sl (by kernel_rfl) rfl) (wkE_cons (LeN.sl (by kernel_rfl) rfl) (wkE_cons (LeN.sl (by kernel_rfl) rfl) (wkE_cons (LeN.sl (by kernel_rfl) rfl) (wkE_cons (LeN.sl (by kernel_rfl) rfl) (wkE_cons (LeN.sl (by kernel_rfl) rfl) trivial)))))) (wkH_cons (BkN.plain (cs:=rws (mdL s (mdN s))) (b:=.r 42 258 2) (by kernel_rfl) (rfl) (plain_rws _) (by kernel_rfl)) (wkH_cons (BkN.blk (k:=⟨[.o 2 (mdL s (mdN s)).length],.t 26⟩) (by kernel_rfl) (rfl) (by kernel_rfl)) (wkH_cons (BkN.plain (cs:=ens (LC s q0 q1 q2)) (b:=.r 59 8 4) (by kernel_rfl) (rfl) (plain_ens _) (by kernel_rfl)) (wkH_cons (BkN.blk (k:=⟨[.o 7 (LC s q0 q1 q2).length,li ((mdL s (mdN s)).length:Nat)],.t 125⟩) (by kernel_rfl) (rfl) (by kernel_rfl)) (wkH_cons (BkN.plain (cs:=ens (LC s q0 q1 q2)) (b:=.r 123 8 7) (by kernel_rfl) (rfl) (plain_ens _) (by kernel_rfl)) trivial))))) hK
 |m+1,k,hm,hk,K,hK=>by
  refine RL5 s q0 q1 q2 k K (HB.mk (fun hne=>?_) (fun he=>absurd (show ((k:Nat):Int)<((mdL s (mdN s)).length:Nat) by omega) (of_decide_eq_false he)))
  have hlt:k<(mdL s (mdN s)).length:=by omega
  have hlen:=made_len4 s
  repeat' (first|exact trivial|with_reducible apply And.intro|(with_reducible apply HB.mk)|with_reducible intro _)
  all_goals first
   |(with_reducible assumption)
   |(with_reducible exact Le.refl _)
   |(with_reducible rfl)
   |(((with_reducible refine tile_C q0 q1 q2 h0 hlt _ ?_ ?_ _ _ _ ?_ ?_ ?_)<;>omega))
   |(exact ⟨by omega,by omega⟩)
   |((rw[ens_len,LC_len];omega))
   |((rw[rws_len];omega))
   |((refine Le.of ?_;simp only[tn,Nat.zero_add,Nat.add_zero];rw[posC q0 q1 q2 hlt]))
   |((refine Le.of ?_;simp only[tn,Nat.zero_add,Nat.add_zero];rw[rws_tl hlt]))
   |(with_reducible exact Le.of (congrArg (fun l=>SV.c (.agg l)) (tl_take _)))
   |(with_reducible exact Le.bool (jk_eq h0 _))
   |(with_reducible exact Le.bool (jk_ne h0 _))
   |(with_reducible exact Le.bool (lE_12 _ _ _))
   |(with_reducible exact Le.bool (lE_0 _ _ _))
   |(with_reducible exact eq38L rfl rfl)
   |((refine Le.bool ?_;cases jk s q0 k<;>rfl))
   |((refine Le.bool (lT_f ?_);simp_all;done))
   |(omega)
   |((with_reducible refine RoundTo.toN 9 (IL5 s q0 q1 q2 (k+1)) ?_ ?_ ?_ ?_ ?_);exact Nat.le_refl _;kernel_rfl;exact (wkE_cons (LeN.sl (by kernel_rfl) rfl) (wkE_cons (LeN.sl (by kernel_rfl) rfl) (wkE_cons (LeN.sl (by kernel_rfl) rfl) (wkE_cons (LeN.sl (by kernel_rfl) rfl) (wkE_cons (LeN.sl (by kernel_rfl) rfl) (wkE_cons (LeN.sl (by kernel_rfl) rfl) trivial))))));exact (wkH_cons (BkN.plain (cs:=rws (mdL s (mdN s))) (b:=.r 42 258 2) (by kernel_rfl) (rfl) (plain_rws _) (by kernel_rfl)) (wkH_cons (BkN.blk (k:=⟨[.o 2 (mdL s (mdN s)).length],.t 26⟩) (by kernel_rfl) (rfl) (by kernel_rfl)) (wkH_cons (BkN.plain (cs:=ens (LC s q0 q1 q2)) (b:=.r 59 8 4) (by kernel_rfl) (rfl) (plain_ens _) (by kernel_rfl)) (wkH_cons (BkN.blk (k:=⟨[.o 7 (LC s q0 q1 q2).length,li ((k:Nat)+1)],.t 125⟩) (by kernel_rfl) (rfl) (by kernel_rfl)) (wkH_cons (BkN.plain (cs:=ens (LC s q0 q1 q2)) (b:=.r 123 8 7) (by kernel_rfl) (rfl) (plain_ens _) (by kernel_rfl)) trivial)))));exact (LL5 s q0 q1 q2 h0 m (k+1) (by omega) (by omega) K hK))
   |(exact okw _ (by omega) (by omega))
   |(exact Le.of rfl)
   |(exact BkR.of rfl)
   |(unfold SlOK;omega)
   |(unfold SlOK;decide)
   |(unfold inByte;decide)
   |(simp only[*,Bool.and_self,Bool.not_false,Bool.not_true];done)
   |(simp_all [wants];done)
theorem enters5:Enters Tryz.prog 5:=fun args w=>by go_simp
def cz_W5 (x:Leaf) (p:Nat) (s:List Int) (q0 q1 q2:Int):Cz:={
 ct:=(fun f=>match f with
 |10=>some fun _ _S ar=>match ar with | []=>some {v:=bv true,rd:=[],wr:=[],nw:=0}|_=>none
 |11=>some fun _ _S ar=>match ar with | [.c (.l _)]=>some {v:=.c (.agg [.o _S.n (mdL s (mdN s)).length]),rd:=[0],wr:=[(_S.n,⟨rws (mdL s (mdN s)),.r 42 258 _S.n⟩)],nw:=1}|_=>none
 |14=>some fun _ _S ar=>match ar with | [.c (.l (.v (.int _ x))),.c (.l (.v (.int _ n)))]=>some {v:=iv .i64 (rst x n),rd:=[],wr:=[],nw:=0}|_=>none
 |15=>some fun _ _S ar=>match ar with | [.c (.l (.v (.string q)))]=>some {v:=.tup [.l (.p _S.n 0),.l (li 0)],rd:=[],wr:=[(_S.n,⟨[.o (_S.n+1) (LC s q0 q1 q2).length,li 0],.t 125⟩),(_S.n+1,⟨ens (LC s q0 q1 q2),.r 123 8 (_S.n+1)⟩)],nw:=2}|_=>none
 |20=>some fun _ _S ar=>match ar with | [.c (.agg [.o i _])]=>some {v:=.c (.l (.o _S.n (mdL s (mdN s)).length)),rd:=[i],wr:=[(_S.n,⟨ens (LM s),.r 59 8 _S.n⟩)],nw:=1}|_=>none
 |21=>some fun _ _S ar=>match ar with | [.c (.l (.o i _))]=>some {v:=.c (.l (.v (.string (writeB (LC s q0 q1 q2))))),rd:=[i],wr:=[],nw:=0}|_=>none
 |23=>some fun _ _S ar=>match ar with | [.c (.l (.p i _))]=>some {v:=.tup [.agg [.v (.slice none 0 0)],.l (li 12)],rd:=[i,i+1],wr:=[(i,⟨[.o (i+1) (LC s q0 q1 q2).length,li (((mdL s (mdN s)).length:Nat)+smD (LC s q0 q1 q2) wAll)],.t 125⟩)],nw:=0}|_=>none
 |_=>none)
 eq:=(fun t=>match t with
 |38=>some (fun xs ys=>sameT (lsB xs) (lsB ys))
 |_=>none)
 raw:=[54],sym:=[0,34,36,47,48,55,59,60],nf:=[(36,.c (.l (.v (.string (bbl s q0))))),(48,.c (.l (ub ((bbl s q0).get! (ii s q0 q1))))),(53,.c (.l (ub (dl q2)))),(54,.c (.l (ub (nv s q0 q1 q2)))),(59,.c (.l (.v (.string (nb s q0 q1 q2))))),(72,bv false)],ap:=true,off:=[],on:=[],lp:=fun r=>match r with|15=>some (fun _ K=>K (.exit 0) (IL5 s q0 q1 q2 (mdL s (mdN s)).length))|_=>none,un:=0,wh:=[26,54,38]}
set_option maxRecDepth 100000 in
set_option maxHeartbeats 400000 in
theorem W5 (x:Leaf) (p:Nat) (s:List Int) (q0 q1 q2:Int) (hx:IntsAt x p s):CallOK Tryz.prog 5 [.c (.l x),ag [li q0,li q1,li q2]] [(0,⟨qls p s,.q⟩)] 1 (bv true) [] 0:=by
 have hlen:=made_len4 s
 refine call_ok (cx:=cz_W5 x p s q0 q1 q2) (nm:=[]) rfl Tryz.func5 (body:=Tryz.f5.body.getD .skip) rfl enters5 (by unfold inck;simp only[List.all_cons,List.all_nil,hx.lt,blkLt_fix (fix_qls p s) (show (BT.rn (rnId 1 0 []) (.q)).isSome=true from rfl),Bool.and_true,Bool.true_and];kernel_rfl) ?_
 apply of_eq (q:=CallOKd Tryz.prog 10 [] [] [] 2 (bv true) [] 0∧CallOKd Tryz.prog 11 [] [SV.c (Cp.l x)] [(0,Blk.mk (qls p s) BT.q)] 2 (ag [Leaf.o 2 (mdL s (mdN s)).length]) [(2,Blk.mk (rws (mdL s (mdN s))) (BT.r 42 258 2))] 1∧1≤1∧0=0∧1=1∧CallOKd Tryz.prog 20 [] [ag [Leaf.o 2 (mdL s (mdN s)).length]] [(2,Blk.mk (rws (mdL s (mdN s))) (BT.r 42 258 2))] 4 (SV.c (Cp.l (Leaf.o 4 (mdL s (mdN s)).length))) [(4,Blk.mk (ens (LM s)) (BT.r 59 8 4))] 1∧HB ((Nat.cast ((mdL s (mdN s)).length):Int)==0) (Le (bv true) (bv true)∧True) (CallOKd Tryz.prog 14 [] [iv IntKind.i64 q0,iv IntKind.i64 (Nat.cast ((mdL s (mdN s)).length):Int)] [] 5 (iv IntKind.i64 (rst q0 (Nat.cast ((mdL s (mdN s)).length):Int))) [] 0∧InR (rst q0 (Nat.cast ((mdL s (mdN s)).length):Int)) (mdL s (mdN s)).length∧(rst q0 (Nat.cast ((mdL s (mdN s)).length):Int)).toNat*8+7<(ens (LM s)).length∧Le (SV.c (Cp.l ((ens (LM s)).getD ((rst q0 (Nat.cast ((mdL s (mdN s)).length):Int)).toNat*8+7) Leaf.u))) (SV.c (Cp.l (Leaf.v (Value.string (bbl s q0)))))∧CallOKd Tryz.prog 14 [] [iv IntKind.i64 q1,iv IntKind.i64 (Nat.cast ((bbl s q0).size):Int)] [] 6 (iv IntKind.i64 (rst q1 (Nat.cast ((bbl s q0).size):Int))) [] 0∧InR (rst q1 (Nat.cast ((bbl s q0).size):Int)) (bbl s q0).size∧0+(rst q1 (Nat.cast ((bbl s q0).size):Int)).toNat*1<(sbytes (bbl s q0)).length∧Le (SV.c (Cp.l ((sbytes (bbl s q0)).getD (0+(rst q1 (Nat.cast ((bbl s q0).size):Int)).toNat*1) Leaf.u))) (iv IntKind.u8 (Nat.cast (((bbl s q0).get! (ii s q0 q1)).toNat):Int))∧CallOKd Tryz.prog 14 [] [iv IntKind.i64 q2,iv IntKind.i64 255] [] 6 (iv IntKind.i64 (rst q2 255)) [] 0∧IntKind.i64.wrap (1+rst q2 255)=1+rst q2 255∧Le (iv IntKind.u8 (IntKind.u8.wrap (1+rst q2 255))) (iv IntKind.u8 (Nat.cast ((dl q2).toNat):Int))∧Le (iv IntKind.u8 (IntKind.u8.wrap ((Nat.cast (((bbl s q0).get! (ii s q0 q1)).toNat):Int)+(Nat.cast ((dl q2).toNat):Int)))) (iv IntKind.u8 (Nat.cast ((nv s q0 q1 q2).toNat):Int))∧InR (rst q1 (Nat.cast ((bbl s q0).size):Int)) (bbl s q0).size∧0+(rst q1 (Nat.cast ((bbl s q0).size):Int)).toNat*1+1≤(sbytes (bbl s q0)).length∧0+(bbl s q0).size≤(splice (sbytes (bbl s q0)) (0+(rst q1 (Nat.cast ((bbl s q0).size):Int)).toNat*1) [Leaf.v (Value.int IntKind.u8 (Nat.cast ((nv s q0 q1 q2).toNat):Int))]).length∧AllB (List.take (bbl s q0).size (List.drop 0 (splice (sbytes (bbl s q0)) (0+(rst q1 (Nat.cast ((bbl s q0).size):Int)).toNat*1) [Leaf.v (Value.int IntKind.u8 (Nat.cast ((nv s q0 q1 q2).toNat):Int))])))∧Le (SV.c (Cp.l (Leaf.v (Value.string (strL (List.take (bbl s q0).size (List.drop 0 (splice (sbytes (bbl s q0)) (0+(rst q1 (Nat.cast ((bbl s q0).size):Int)).toNat*1) [Leaf.v (Value.int IntKind.u8 (Nat.cast ((nv s q0 q1 q2).toNat):Int))])))))))) (SV.c (Cp.l (Leaf.v (Value.string (nb s q0 q1 q2)))))∧InR (rst q0 (Nat.cast ((mdL s (mdN s)).length):Int)) (mdL s (mdN s)).length∧(rst q0 (Nat.cast ((mdL s (mdN s)).length):Int)).toNat*8+7+1≤(ens (LM s)).length∧CallOKd Tryz.prog 21 [] [SV.c (Cp.l (Leaf.o 4 (mdL s (mdN s)).length))] [(4,Blk.mk (splice (ens (LM s)) ((rst q0 (Nat.cast ((mdL s (mdN s)).length):Int)).toNat*8+7) [Leaf.v (Value.string (nb s q0 q1 q2))]) (BT.r 59 8 4))] 6 (SV.c (Cp.l (Leaf.v (Value.string (writeB (LC s q0 q1 q2)))))) [] 0∧CallOKd Tryz.prog 15 [] [SV.c (Cp.l (Leaf.v (Value.string (writeB (LC s q0 q1 q2)))))] [] 6 (SV.tup [Cp.l (Leaf.p 6 0),Cp.l (li 0)]) [(6,Blk.mk [Leaf.o 7 (LC s q0 q1 q2).length,li 0] (BT.t 125)),(7,Blk.mk (ens (LC s q0 q1 q2)) (BT.r 123 8 7))] 2∧((!0 != 0)=true→(!0 != 0)=true∧Le (bv false) (bv false)∧True)∧((0 != 0)=false→(!0 != 0)=true)∧(LoopOK Tryz.prog ((getLoop 15 (Tryz.f5.body.getD .skip)).getD .skip) (St.mk [(13,iv IntKind.i64 0),(73,bv (bif 0 != 0 then true else false)),(72,SV.g (!0 != 0) (Cp.l (lb false))),(71,SV.g (!0 != 0) (Cp.l (Leaf.p 6 0))),(70,bv (0 != 0)),(69,bv (0 != 0)),(68,iv IntKind.i64 0),(12,iv IntKind.i64 0),(11,SV.c (Cp.l (Leaf.p 6 0))),(67,iv IntKind.i64 0),(66,SV.c (Cp.l (Leaf.p 6 0))),(62,SV.tup [Cp.l (Leaf.p 6 0),Cp.l (li 0)]),(65,SV.tup [Cp.l (Leaf.p 6 0),Cp.l (li 0)]),(64,SV.c (Cp.l (Leaf.v (Value.string (writeB (LC s q0 q1 q2)))))),(63,SV.c (Cp.l (Leaf.o 4 (mdL s (mdN s)).length))),(61,SV.c (Cp.l (Leaf.p 4 ((rst q0 (Nat.cast ((mdL s (mdN s)).length):Int)).toNat*8+7)))),(60,SV.c (Cp.l (Leaf.p 4 ((rst q0 (Nat.cast ((mdL s (mdN s)).length):Int)).toNat*8)))),(59,SV.c (Cp.l (Leaf.v (Value.string (nb s q0 q1 q2))))),(58,SV.c (Cp.l (Leaf.s 5 0 (bbl s q0).size))),(57,iv IntKind.i64 (rst q0 (Nat.cast ((mdL s (mdN s)).length):Int))),(56,SV.c (Cp.l (Leaf.o 4 (mdL s (mdN s)).length))),(55,SV.c (Cp.l (Leaf.p 5 (0+(rst q1 (Nat.cast ((bbl s q0).size):Int)).toNat*1)))),(54,iv IntKind.u8 (Nat.cast ((nv s q0 q1 q2).toNat):Int)),(53,iv IntKind.u8 (Nat.cast ((dl q2).toNat):Int)),(52,iv IntKind.i64 (1+rst q2 255)),(51,iv IntKind.i64 (rst q2 255)),(50,iv IntKind.i64 q2),(49,SV.c (Cp.l (Leaf.p 1 2))),(48,iv IntKind.u8 (Nat.cast (((bbl s q0).get! (ii s q0 q1)).toNat):Int)),(47,SV.c (Cp.l (Leaf.p 5 (0+(rst q1 (Nat.cast ((bbl s q0).size):Int)).toNat*1)))),(46,iv IntKind.i64 (rst q1 (Nat.cast ((bbl s q0).size):Int))),(45,SV.c (Cp.l (Leaf.s 5 0 (bbl s q0).size))),(44,iv IntKind.i64 (rst q1 (Nat.cast ((bbl s q0).size):Int))),(43,SV.c (Cp.l (Leaf.s 5 0 (bbl s q0).size))),(10,iv IntKind.i64 (rst q1 (Nat.cast ((bbl s q0).size):Int))),(42,iv IntKind.i64 (rst q1 (Nat.cast ((bbl s q0).size):Int))),(41,iv IntKind.i64 (Nat.cast ((bbl s q0).size):Int)),(40,SV.c (Cp.l (Leaf.s 5 0 (bbl s q0).size))),(39,iv IntKind.i64 q1),(38,SV.c (Cp.l (Leaf.p 1 1))),(9,SV.c (Cp.l (Leaf.s 5 0 (bbl s q0).size))),(37,SV.c (Cp.l (Leaf.s 5 0 (bbl s q0).size))),(36,SV.c (Cp.l (Leaf.v (Value.string (bbl s q0))))),(35,SV.c (Cp.l (Leaf.p 4 ((rst q0 (Nat.cast ((mdL s (mdN s)).length):Int)).toNat*8+7)))),(34,SV.c (Cp.l (Leaf.p 4 ((rst q0 (Nat.cast ((mdL s (mdN s)).length):Int)).toNat*8)))),(33,iv IntKind.i64 (rst q0 (Nat.cast ((mdL s (mdN s)).length):Int))),(32,SV.c (Cp.l (Leaf.o 4 (mdL s (mdN s)).length))),(8,iv IntKind.i64 (rst q0 (Nat.cast ((mdL s (mdN s)).length):Int))),(31,iv IntKind.i64 (rst q0 (Nat.cast ((mdL s (mdN s)).length):Int))),(30,iv IntKind.i64 (Nat.cast ((mdL s (mdN s)).length):Int)),(29,SV.c (Cp.l (Leaf.o 4 (mdL s (mdN s)).length))),(28,iv IntKind.i64 q0),(27,SV.c (Cp.l (Leaf.p 1 0))),(25,bv ((Nat.cast ((mdL s (mdN s)).length):Int)==0)),(24,iv IntKind.i64 (Nat.cast ((mdL s (mdN s)).length):Int)),(23,SV.c (Cp.l (Leaf.o 4 (mdL s (mdN s)).length))),(7,SV.c (Cp.l (Leaf.o 4 (mdL s (mdN s)).length))),(22,SV.c (Cp.l (Leaf.o 4 (mdL s (mdN s)).length))),(21,ag [Leaf.o 2 (mdL s (mdN s)).length]),(6,SV.c (Cp.l (Leaf.p 3 0))),(20,ag [Leaf.o 2 (mdL s (mdN s)).length]),(19,SV.c (Cp.l x)),(5,bv true),(18,bv true),(4,bv false),(3,SV.c (Cp.l (Leaf.p 1 0))),(0,SV.c (Cp.l x)),(1,ag [li q0,li q1,li q2])] [(6,some (Blk.mk [Leaf.o 7 (LC s q0 q1 q2).length,li 0] (BT.t 125))),(7,some (Blk.mk (ens (LC s q0 q1 q2)) (BT.r 123 8 7))),(4,some (Blk.mk (splice (ens (LM s)) ((rst q0 (Nat.cast ((mdL s (mdN s)).length):Int)).toNat*8+7) [Leaf.v (Value.string (nb s q0 q1 q2))]) (BT.r 59 8 4))),(5,some (Blk.mk (splice (sbytes (bbl s q0)) (0+(rst q1 (Nat.cast ((bbl s q0).size):Int)).toNat*1) [Leaf.v (Value.int IntKind.u8 (Nat.cast ((nv s q0 q1 q2).toNat):Int))]) (BT.y 5))),(5,some (Blk.mk (sbytes (bbl s q0)) (BT.y 5))),(4,some (Blk.mk (ens (LM s)) (BT.r 59 8 4))),(3,some (Blk.mk [Leaf.o 2 (mdL s (mdN s)).length] (BT.t 26))),(3,some (Blk.mk [Leaf.v (Value.slice none 0 0)] (BT.t 26))),(2,some (Blk.mk (rws (mdL s (mdN s))) (BT.r 42 258 2))),(1,some (Blk.mk [li q0,li q1,li q2] (BT.t 54))),(0,some (Blk.mk (qls p s) BT.q))] 8 126 [6,7,4,5,5,4,3,3,2,1] 1) fun K=>K (Exit.exit 0) (IL5 s q0 q1 q2 (mdL s (mdN s)).length))∧CallOKd Tryz.prog 23 [] [SV.c (Cp.l (Leaf.p 6 0))] [(6,Blk.mk [Leaf.o 7 (LC s q0 q1 q2).length,li (Nat.cast ((mdL s (mdN s)).length):Int)] (BT.t 125)),(7,Blk.mk (ens (LC s q0 q1 q2)) (BT.r 123 8 7))] 8 (SV.tup [Cp.agg [Leaf.v (Value.slice none 0 0)],Cp.l (li 12)]) [(6,Blk.mk [Leaf.o 7 (LC s q0 q1 q2).length,li ((Nat.cast ((mdL s (mdN s)).length):Int)+smD (LC s q0 q1 q2) wAll)] (BT.t 125))] 0∧1≤1∧0=0∧1=1∧(true=true→true=true∧True)∧(true=true→true=true)∧Le (bv (bif true then 12==12 else false)) (bv true)∧True)) (by kernel_rfl)
 repeat' (first|exact trivial|with_reducible apply And.intro|(with_reducible apply HB.mk)|with_reducible intro _)
 all_goals first
  |(with_reducible assumption)
  |(with_reducible exact Le.refl _)
  |(with_reducible rfl)
  |((with_reducible exact C10 _))
  |((exact made_any hx _ (by omega)))
  |((have hf:=fct q0 q1 q2 (by with_reducible assumption);(with_reducible refine C14 _ _ ?_ ?_ _)<;>omega))
  |((exact open_C q0 q1 q2 (by with_reducible assumption) _))
  |((exact entries_LM s _ _ (by omega)))
  |((exact refwrite_C q0 q1 q2 (by with_reducible assumption) _ _ (by omega)))
  |((have hf:=fct q0 q1 q2 (by with_reducible assumption);(with_reducible refine all_C q0 q1 q2 (by with_reducible assumption) _ ?_ ?_ _ _ _ ?_ ?_ ?_)<;>omega))
  |(exact LoopOK.mk (IL5 s q0 q1 q2 0) rfl (by kernel_rfl) (wkE_cons (LeN.sl (by kernel_rfl) rfl) (wkE_cons (LeN.sl (by kernel_rfl) rfl) (wkE_cons (LeN.sl (by kernel_rfl) rfl) (wkE_cons (LeN.sl (by kernel_rfl) rfl) (wkE_cons (LeN.sl (by kernel_rfl) rfl) (wkE_cons (LeN.sl (by kernel_rfl) rfl) trivial)))))) (wkH_cons (BkN.plain (cs:=rws (mdL s (mdN s))) (b:=.r 42 258 2) (by kernel_rfl) (rfl) (plain_rws _) (by kernel_rfl)) (wkH_cons (BkN.blk (k:=⟨[.o 2 (mdL s (mdN s)).length],.t 26⟩) (by kernel_rfl) (rfl) (by kernel_rfl)) (wkH_cons (BkN.plain (cs:=splice (ens (LM s)) ((rst q0 (mdL s (mdN s)).length).toNat*8+7) [.v (.string (nb s q0 q1 q2))]) (b:=.r 59 8 4) (by kernel_rfl) (sp4 q0 q1 q2 (by with_reducible assumption)) (plain_ens _) (by kernel_rfl)) (wkH_cons (BkN.blk (k:=⟨[.o 7 (LC s q0 q1 q2).length,li 0],.t 125⟩) (by kernel_rfl) (rfl) (by kernel_rfl)) (wkH_cons (BkN.plain (cs:=ens (LC s q0 q1 q2)) (b:=.r 123 8 7) (by kernel_rfl) (rfl) (plain_ens _) (by kernel_rfl)) trivial))))) (fun K hT=>LL5 s q0 q1 q2 (by with_reducible assumption) _ 0 rfl (Nat.zero_le _) K hT))
  |(exact Le.bool rfl)
  |((have hf:=fct q0 q1 q2 (by with_reducible assumption);exact ⟨by omega,by omega⟩))
  |((have hf:=fct q0 q1 q2 (by with_reducible assumption);rw[ens_len,LM_len];omega))
  |((have hf:=fct q0 q1 q2 (by with_reducible assumption);rw[sbytes_len];omega))
  |((have hf:=fct q0 q1 q2 (by with_reducible assumption);exact okw _ (by omega) (by omega)))
  |((refine Le.of ?_;exact en_blobK q0 (by with_reducible assumption)))
  |((refine Le.of ?_;exact sb_getI q0 q1 (by with_reducible assumption)))
  |(with_reducible exact Le.int (dl_w _))
  |(with_reducible exact Le.int (nv_w _ _ _ _))
  |((rw[sp5_len];omega))
  |(exact sp5_all _ _ _ _)
  |(exact Le.of (congrArg (fun s=>SV.c (.l (.v (.string s)))) (sp5_str _ _ _ _)))
  |(omega)
  |(exact okw _ (by omega) (by omega))
  |(exact Le.of rfl)
  |(exact BkR.of rfl)
  |(unfold SlOK;omega)
  |(unfold SlOK;decide)
  |(unfold inByte;decide)
  |(simp only[*,Bool.and_self,Bool.not_false,Bool.not_true];done)
  |(simp_all [wants];done)
end Ab
namespace codecLocal
theorem walk (o:Option Addr) (zs:List Int) (n cap:Nat) (a b c:Int) (w:World) (w0:n*8≤140737488351232) (hn:zs.length=n) (hcap:n≤cap)
  (hc:∀i (h:i<zs.length),∃a,o=some a∧a.block<w.heap.size∧w.cell? (a.add i)=some (.int .i64 zs[i])) (hwf:∀z∈zs,(Lit.int .i64 z).wf=true) (wf1:(Lit.int .i64 a).wf=true) (wf2:(Lit.int .i64 b).wf=true) (wf3:(Lit.int .i64 c).wf=true) :
  Calls Tryz.prog 5 #[.slice o n cap,.agg #[.int .i64 a,.int .i64 b,.int .i64 c]] w fun e w'=>e=.returned (.bool true)∧Below w.heap.size w w':=
 Ab.ints_call (pre:=[]) (post:=[Ab.ag [Ab.li a,Ab.li b,Ab.li c]]) rfl rfl (fun x p s hx=>Ab.W5 x p s a b c hx) o zs n cap w w0 hn hcap hc
end codecLocal
namespace Ab
end Ab
end Go.Proofs.YtpdckpifhniioaaGreat
end
section
namespace Go.Proofs.YtpdckpifhniioaaGreat
open Go.WideShapes
def IsFlat:List IntKind→List Value→Prop
 |[],cs=>cs=[]
 |k::ks,cs=>∃z rest,cs=.int k z::rest∧(Lit.int k z).wf=true∧IsFlat ks rest
theorem IsFlat.append:∀ {ks ks':List IntKind} {cs cs':List Value},IsFlat ks cs→IsFlat ks' cs'→IsFlat (ks++ks') (cs++cs')
 |[],ks',cs,cs',h,h'=>by rw[show cs=[] from h];exact h'
 |k::ks,ks',cs,cs',h,h'=>by
  obtain ⟨z,rest,rfl,hw,h2⟩:=h
  exact ⟨z,rest++cs',rfl,hw,h2.append h'⟩
theorem IsFlat.chunks {ks:List IntKind}:∀(m:Nat) (cs:List Value),cs.length=m*ks.length→(∀i,i<m→IsFlat ks ((cs.drop (i*ks.length)).take ks.length))→IsFlat (List.replicate m ks).flatten cs
 |0,cs,hl,_=>by
  have:cs=[]:=List.eq_nil_of_length_eq_zero (by simpa using hl)
  subst this;rfl
 |m+1,cs,hl,h=>by
  have h0:=h 0 (by omega)
  simp only[Nat.zero_mul,List.drop_zero] at h0
  have h1:=IsFlat.chunks (ks:=ks) m (cs.drop ks.length) (by rw[List.length_drop,hl,Nat.add_mul];omega) (fun i hi=>by
   have:=h (i+1) (by omega)
   rw[List.drop_drop]
   rwa [Nat.add_mul,Nat.one_mul,Nat.add_comm] at this)
  have:=h0.append h1
  rw[List.take_append_drop] at this
  simpa [List.replicate_succ] using this
def fieldsFlat (P:Program) (rec:TypeId→Option (List IntKind)):List Field→Nat→Option (List IntKind)
 |[],_=>some []
 |f::fs,a=>
  match rec f.type with
  |none=>none
  |some ks=>if f.offset=a∧P.cellsOf f.type=ks.length then (fieldsFlat P rec fs (a+ks.length)).map (ks++·) else none
def flatK (P:Program):Nat→TypeId→Option (List IntKind)
 |0,_=>none
 |n+1,t=>
  match P.underlying t with
  |some (.int k)=>some [k]
  |some (.array m e)=>
   match flatK P n e with
   |none=>none
   |some ks=>if P.cellsOf e=ks.length∧P.cellsOf t=m*ks.length then some (List.replicate m ks).flatten else none
  |some (.struct fs)=>
   match fieldsFlat P (flatK P n) fs.toList 0 with
   |none=>none
   |some ks=>if P.cellsOf t=ks.length then some ks else none
  |_=>none
section
variable {H:Type} {enc:TypeId×Value→H} {P:Program} {w:World} {base:Nat} {spare:Nat→Bool} {held:Bool}
theorem fields_flat {rec:TypeId→Option (List IntKind)} {m:Nat} (hrec:∀t ks cs x,rec t=some ks→DataW.trod enc P w base spare held m t cs=some x→IsFlat ks cs) (cs:List Value) :
  ∀(fs:List Field) (a:Nat) (ks:List IntKind),fieldsFlat P rec fs a=some ks→
   (∀(i:Nat) (f:Field),fs[i]? = some f→∃x,DataW.trod enc P w base spare held m f.type ((cs.drop f.offset).take (P.cellsOf f.type))=some x)→
   IsFlat ks ((cs.drop a).take ks.length)
 |[],a,ks,h,_=>by
  have:ks=[]:=by simpa [fieldsFlat] using h.symm
  subst this
  simp[IsFlat]
 |f::fs,a,ks,h,hx=>by
  unfold fieldsFlat at h
  cases hr:rec f.type with
  |none=>simp[hr] at h
  |some k0=>
   simp only[hr] at h
   split at h
   ·rename_i hc
    obtain ⟨hoff,hcell⟩:=hc
    cases hf:fieldsFlat P rec fs (a+k0.length) with
    |none=>simp[hf] at h
    |some k1=>
     have hk:k0++k1=ks:=by simpa [hf] using h
     subst hk
     obtain ⟨x,hx0⟩:=hx 0 f rfl
     have h0:=hrec _ _ _ _ hr hx0
     rw[hoff,hcell] at h0
     have h1:=fields_flat hrec cs fs (a+k0.length) k1 hf (fun i g hg=>hx (i+1) g (by simpa using hg))
     have:=h0.append h1
     have e:(cs.drop a).take k0.length++(cs.drop (a+k0.length)).take k1.length=(cs.drop a).take (k0++k1).length:=by
      rw[List.length_append,List.take_add,List.drop_drop]
     rwa [e] at this
   ·simp at h
theorem trod_flat:∀(n:Nat) (t:TypeId) (ks:List IntKind) (fuel:Nat) (cs:List Value) (x:DataW H×List MemPlace),flatK P n t=some ks→
  DataW.trod enc P w base spare held fuel t cs=some x→IsFlat ks cs
 |0,t,ks,fuel,cs,x,h,_=>by simp[flatK] at h
 |n+1,t,ks,fuel,cs,x,h,hx=>by
  unfold flatK at h
  split at h
  ·rename_i k hu
   have:ks=[k]:=by simpa using h.symm
   subst this
   obtain ⟨z,rfl,_,hw⟩:=DataW.trod_int hu hx
   exact ⟨z,[],rfl,hw,rfl⟩
  ·rename_i m e hu
   cases hr:flatK P n e with
   |none=>simp[hr] at h
   |some k0=>
    simp only[hr] at h
    split at h
    ·rename_i hc
     obtain ⟨hc1,hc2⟩:=hc
     have:ks=(List.replicate m k0).flatten:=by simpa using h.symm
     subst this
     obtain ⟨xs,mm,_,_,hl,hxs,hel⟩:=DataW.trod_array hu hx
     refine IsFlat.chunks m cs (by rw[hl,hc2]) fun i hi=>?_
     have hxi:=hel i hi
     rw[hc1,List.getElem?_eq_getElem (by omega)] at hxi
     exact trod_flat n e k0 mm _ _ hr hxi
    ·simp at h
  ·rename_i fs hu
   cases hr:fieldsFlat P (flatK P n) fs.toList 0 with
   |none=>simp[hr] at h
   |some k0=>
    simp only[hr] at h
    split at h
    ·rename_i hc
     have:ks=k0:=by simpa using h.symm
     subst this
     obtain ⟨xs,mm,_,_,hl,hxs,hel⟩:=DataW.trod_struct hu hx
     have:=fields_flat (rec:=flatK P n) (m:=mm) (fun t ks cs x h1 h2=>trod_flat n t ks mm cs x h1 h2) cs fs.toList 0 ks hr (fun i f hf=>by
      have hf':fs[i]? = some f:=by simpa using hf
      have:=hel i f hf'
      rw[List.getElem?_eq_getElem (by
       have:=(Array.getElem?_eq_some_iff.1 hf').1
       omega)] at this
      exact ⟨_,this⟩)
     rw[List.drop_zero,List.take_of_length_le (by rw[hl,hc];exact Nat.le_refl _)] at this
     exact this
    ·simp at h
  ·simp at h
theorem open_flat {t:TypeId} {v:Value} {d:DataW H} {p:List MemPlace} {ks:List IntKind} (n:Nat) (hk:flatK P n t=some ks) (hagg:∃C,v=.agg C)
  (h:DataW.Trod enc P w base spare held t v d p):∃cs,v=.agg cs.toArray∧IsFlat ks cs:=by
 obtain ⟨C,rfl⟩:=hagg
 obtain ⟨fuel,hf⟩:=h
 exact ⟨C.toList,by simp,trod_flat n t ks fuel _ _ hk (by simpa [Value.cells] using hf)⟩
theorem agg_array {r:Reach} {t:TypeId} {v:Value} {n:Nat} {e:TypeId} (hs:P.underlying t=some (.array n e)) (hv:Value.okWide P w r base t v):∃C,v=.agg C:=by
 unfold Value.okWide at hv
 rw[hs] at hv
 obtain ⟨C,h,_⟩:=hv
 exact ⟨C,h⟩
end
end Go.Proofs.YtpdckpifhniioaaGreat
end
section
namespace Go.Proofs.YtpdckpifhniioaaGreat
open Go.WideShapes Go.ChangeShapes
section
variable {H:Type} {enc:TypeId×Value→H} {P:Program} {W:World} {base:Nat}
theorem row_lt {p:List MemPlace} {a:Addr} {n i:Nat} (hp:p=MemPlace.row a n) (hi:i<n) (hlt:∀x∈p,x.block<W.heap.size):a.block<W.heap.size:=by
 obtain ⟨b,off,spot⟩:=a
 exact hlt (.cell b off) (by rw[hp];exact MemPlace.mem_row.2 ⟨0,by omega,by simp⟩)
theorem open_int_slice {t e:TypeId} {k:IntKind} {r:Reach} {b0:Nat} {v:Value} {d:DataW H} {p:List MemPlace} (ht:P.underlying t=some (.slice e)) (he:P.underlying e=some (.int k)) (hc:P.cellsOf e=1)
  (hv:Value.okWide P W r b0 t v) (h:DataW.Trod enc P W base (fun _=>true) true t v d p) (hlt:∀x∈p,x.block<W.heap.size) :
  ∃(o:Option Addr) (n cap:Nat) (zs:List Int),v=.slice o n cap∧zs.length=n∧n≤cap∧(∀z∈zs,(Lit.int k z).wf=true)∧
   (∀i (h:i<zs.length),∃a,o=some a∧a.block<W.heap.size∧W.cell? (a.add i)=some (.int k zs[i]))∧(d=.nil∧n=0∨∃elems spare,d=.slice elems spare∧elems.length=n):=by
 obtain ⟨o,len,cap,rfl⟩:=okWide_slice ht hv
 obtain ⟨fuel,hf⟩:=h
 rcases open_ints ht he hc hf with ⟨hcs,hx⟩|⟨a,len',cap',zs,hcs,_,hl,hm,hz,hx,hcell,hwz⟩
 ·simp[Value.cells] at hcs
  obtain ⟨rfl,rfl,rfl⟩:=hcs
  simp only[Prod.mk.injEq] at hx
  obtain ⟨rfl,rfl⟩:=hx
  exact ⟨none,0,0,[],rfl,rfl,Nat.le_refl _,by simp,fun i h=>by simp at h,Or.inl ⟨rfl,rfl⟩⟩
 ·simp[Value.cells] at hcs
  obtain ⟨rfl,rfl,rfl⟩:=hcs
  simp only[Prod.mk.injEq] at hx
  obtain ⟨rfl,hp⟩:=hx
  simp only[if_true] at hz
  refine ⟨some a,len,cap,zs.take len,rfl,by rw[List.length_take];omega,hl,fun z hzz=>hwz z (List.mem_of_mem_take hzz),fun i hi=>?_,Or.inr ⟨_,_,rfl,by simp[lits];omega⟩⟩
  rw[List.length_take] at hi
  refine ⟨a,rfl,row_lt hp (show i<zs.length by omega) hlt,?_⟩
  rw[hcell i (by omega),List.getElem_take,List.getD_eq_getElem?_getD,List.getElem?_eq_getElem (by omega)];rfl
theorem reach_slice {ts:List TypeId} {ds:List (DataW H)} {j:Nat} {t e:TypeId} {d:DataW H} {n:Nat} (h:(DataW.weightsEach P ts ds).all (·≤reachBytes)=true) (ht:ts[j]? = some t) (hd:ds[j]? = some d)
  (hu:P.underlying t=some (.slice e)) (hs:d=.nil∧n=0∨∃elems spare,d=.slice elems spare∧elems.length=n):n*P.bytesOf e≤140737488351232:=by
 rcases hs with ⟨_,rfl⟩|⟨elems,spare,rfl,rfl⟩
 ·simp
 ·have:=sized_slice h ht hd hu
  refine Nat.le_trans (Nat.mul_le_mul_right _ (Nat.le_add_right _ _)) (show _≤140737488351232 from this)
end
end Go.Proofs.YtpdckpifhniioaaGreat
end
