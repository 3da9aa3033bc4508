/- Part 17 of what CodecLocal rests on. -/
import Derived.Test.YtpdckpifhniioaaGreatPp
section
set_option linter.unusedVariables false
set_option linter.unusedSimpArgs false
namespace Go.Proofs.YtpdckpifhniioaaGreat
open Go.RowKit
namespace Ab
attribute [local irreducible] CallOKd
structure EN where
 X:Int
 Y:Int
 a:UInt8
 b:UInt8
 c:UInt8
 d:UInt8
 sum:Int
 blob:ByteArray
def en (e:EN):List Leaf:=[li e.X,li e.Y,ub e.a,ub e.b,ub e.c,ub e.d,li e.sum,.v (.string e.blob)]
def ens (l:List EN):List Leaf:=(l.map en).flatten
def pt1 (s:ByteArray) (p:Nat):Nat×Bool:=(Oct.takeRes s p false (Oct.sz 2)).2
def pt2 (s:ByteArray) (p:Nat):Nat×Bool:=(Oct.takeRes s (pt1 s p).1 (pt1 s p).2 (Oct.sz 2)).2
def pt3 (s:ByteArray) (p:Nat):Nat×Bool:=(Oct.takeRes s (pt2 s p).1 (pt2 s p).2 4).2
def pt4 (s:ByteArray) (p:Nat):Nat×Bool:=(Oct.varRes s (pt3 s p).1 (pt3 s p).2).2
def pt5 (s:ByteArray) (p:Nat):Nat×Bool:=(Oct.takeRes s (pt4 s p).1 (pt4 s p).2 (Oct.sz 4)).2
def numV (s:ByteArray) (p:Nat) (f:Bool) (m:Int):Int:=wrap64 (Oct.bev (Oct.takeRes s p f (Oct.sz m)).1.data.toList)
def prX (s:ByteArray) (p:Nat):Int:=numV s p false 2
def prY (s:ByteArray) (p:Nat):Int:=numV s (pt1 s p).1 (pt1 s p).2 2
def prQ (s:ByteArray) (p:Nat):ByteArray:=(Oct.takeRes s (pt2 s p).1 (pt2 s p).2 4).1
def prZ (s:ByteArray) (p:Nat):Int:=(Oct.varRes s (pt3 s p).1 (pt3 s p).2).1
def prS (s:ByteArray) (p:Nat):Int:=numV s (pt4 s p).1 (pt4 s p).2 4
def prE (s:ByteArray) (p:Nat):EN:=⟨prX s p-8192,prY s p-8192,(prQ s p).get! 0,(prQ s p).get! 1,(prQ s p).get! 2,(prQ s p).get! 3,prS s p,ByteArray.empty⟩
def posn (s:ByteArray):Nat→Nat
 |0=>(Oct.varRes s 0 false).2.1
 |k+1=>(pt5 s (posn s k)).1
def enE (s:ByteArray) (k:Nat):EN:=prE s (posn s k)
def szE (s:ByteArray) (k:Nat):Int:=prZ s (posn s k)
def bd1 (s:ByteArray) (p:Nat):Bool:=bif (pt5 s p).2 then true else decide (prX s p-8192≥8192)
def bd2 (s:ByteArray) (p:Nat):Bool:=bif bd1 s p then true else decide (prY s p-8192≥8192)
def bd3 (s:ByteArray) (p:Nat):Bool:=bif bd2 s p then true else decide (prZ s p<1)
def bad1 (s:ByteArray) (p:Nat):Bool:=bif bd3 s p then true else decide (prZ s p>257)
def bad2 (s:ByteArray) (k:Nat):Bool:=bif decide (((k:Nat):Int)>0) then !lesB (enE s (k-1)).X (enE s (k-1)).Y (enE s k).X (enE s k).Y else false
def okE (s:ByteArray) (k:Nat):Bool:=!bad1 s (posn s k) && !bad2 s k
def ents (s:ByteArray) (k:Nat):List EN:=(List.range k).map (enE s)
def szs (s:ByteArray) (k:Nat):List Leaf:=(List.range k).map fun j=>li (szE s j)
def nP (s:ByteArray):Int:=(Oct.varRes s 0 false).1
def nN (s:ByteArray):Nat:=(nP s).toNat
def hdBad (s:ByteArray):Bool:=bif (bif (Oct.varRes s 0 false).2.2 then true else decide (nP s<0)) then true else decide (nP s>1024)
theorem plain_en (e:EN):Plain (en e):=fun x hx=>by
 simp only[en,List.mem_cons,List.not_mem_nil,or_false] at hx
 rcases hx with rfl|rfl|rfl|rfl|rfl|rfl|rfl|rfl<;>exact ⟨_,rfl⟩
theorem plain_ens (l:List EN):Plain (ens l):=fun x hx=>by
 simp only[ens,List.mem_flatten,List.mem_map] at hx
 obtain ⟨m,⟨e,_,rfl⟩,hx⟩:=hx
 exact plain_en e x hx
theorem ens_len:∀l:List EN,(ens l).length=8*l.length
 |[]=>rfl
 |e::l=>by
  have:=ens_len l
  simp only[ens,List.map_cons,List.flatten_cons,List.length_append,List.length_cons] at *
  show 8+_=_
  omega
theorem ens_append (l m:List EN):ens (l++m)=ens l++ens m:=by simp[ens]
theorem ens_one (e:EN):ens [e]=en e:=by simp[ens]
def EN.z:EN:=⟨0,0,0,0,0,0,0,ByteArray.empty⟩
def ea (l:List EN) (k:Nat):EN:=l.getD k EN.z
theorem ens_drop:∀(l:List EN) (k:Nat),k<l.length→∃m,(ens l).drop (k*8)=en (ea l k)++m
 |[],k,h=>by simp at h
 |e::l,0,h=>⟨ens l,by simp[ens,ea]⟩
 |e::l,k+1,h=>by
  obtain ⟨m,hm⟩:=ens_drop l k (by simpa using h)
  refine ⟨m,?_⟩
  have:(ens (e::l)).drop ((k+1)*8)=(ens l).drop (k*8):=by
   simp only[ens,List.map_cons,List.flatten_cons]
   rw[List.drop_append,List.drop_eq_nil_of_le (by show 8≤_;omega),List.nil_append,show (en e).length=8 from rfl,show (k+1)*8-8=k*8 by omega]
  rw[this,hm]
  rfl
theorem ens_at {l:List EN} {k:Nat} (h:k<l.length):List.take 8 (List.drop (k*8) (ens l))=en (ea l k):=by
 obtain ⟨m,hm⟩:=ens_drop l k h
 rw[hm];rfl
theorem ens_pos {l:List EN} {k:Nat} (h:k<l.length):List.take 2 (List.drop (k*8) (ens l))=[li (ea l k).X,li (ea l k).Y]:=by
 obtain ⟨m,hm⟩:=ens_drop l k h
 rw[hm];rfl
theorem ents_len (s:ByteArray) (k:Nat):(ents s k).length=k:=by simp[ents]
theorem ents_at (s:ByteArray) {j k:Nat} (h:j<k):ea (ents s k) j=enE s j:=by simp[ea,ents,List.getD,h]
theorem ents_next (s:ByteArray) (k:Nat):ens (ents s k)++en (enE s k)=ens (ents s (k+1)):=by
 unfold ents
 rw[List.range_succ,List.map_append,ens_append,List.map_singleton,ens_one]
theorem szs_len (s:ByteArray) (k:Nat):(szs s k).length=k:=by simp[szs]
theorem szs_next (s:ByteArray) (k:Nat):szs s k++[li (szE s k)]=szs s (k+1):=by
 unfold szs
 rw[List.range_succ,List.map_append,List.map_singleton]
theorem plain_szs (s:ByteArray) (k:Nat):Plain (szs s k):=fun x hx=>by
 simp only[szs,List.mem_map] at hx
 obtain ⟨b,_,rfl⟩:=hx
 exact ⟨_,rfl⟩
theorem szs_at (s:ByteArray) {j k:Nat} (h:j<k):(szs s k).getD j .u=li (szE s j):=by simp[szs,List.getD,h]
theorem pt1_le {s:ByteArray} {p:Nat} (h:p≤s.size):(pt1 s p).1≤s.size:=Oct.takeRes_le _ _ _ _ h
theorem pt2_le {s:ByteArray} {p:Nat} (h:p≤s.size):(pt2 s p).1≤s.size:=Oct.takeRes_le _ _ _ _ (pt1_le h)
theorem pt3_le {s:ByteArray} {p:Nat} (h:p≤s.size):(pt3 s p).1≤s.size:=Oct.takeRes_le _ _ _ _ (pt2_le h)
theorem pt4_le {s:ByteArray} {p:Nat} (h:p≤s.size):(pt4 s p).1≤s.size:=Oct.varRes_le _ _ _ (pt3_le h)
theorem pt5_le {s:ByteArray} {p:Nat} (h:p≤s.size):(pt5 s p).1≤s.size:=Oct.takeRes_le _ _ _ _ (pt4_le h)
theorem posn_le (s:ByteArray):∀k,posn s k≤s.size
 |0=>Oct.varRes_le s 0 false (Nat.zero_le _)
 |k+1=>pt5_le (posn_le s k)
theorem numV_bd (s:ByteArray) (p:Nat) (f:Bool) (m:Int) (h:Oct.sz m≤4):0≤numV s p f m∧numV s p f m<4294967296:=by
 unfold numV
 have h1:=Oct.bev_lt (Oct.takeRes s p f (Oct.sz m)).1.data.toList
 have h2:(Oct.takeRes s p f (Oct.sz m)).1.data.toList.length≤4:=by
  unfold Oct.takeRes
  split
  ·exact Nat.zero_le _
  ·show (s.extract p (p+(Oct.sz m:Int).toNat)).size≤4
   rw[ByteArray.size_extract]
   omega
 have h3:=Nat.pow_le_pow_right (n:=256) (by decide) h2
 have h4:Oct.bev (Oct.takeRes s p f (Oct.sz m)).1.data.toList<4294967296:=Nat.lt_of_lt_of_le h1 h3
 generalize Oct.bev (Oct.takeRes s p f (Oct.sz m)).1.data.toList=z at *
 have:wrap64 (z:Int)=z:=by
  unfold wrap64;omega
 omega
theorem ok8192 (z:Int) (h:0≤z∧z<4294967296):IntKind.i64.wrap (z-8192)=z-8192:=okw _ (by omega) (by omega)
theorem prX_bd (s:ByteArray) (p:Nat):0≤prX s p∧prX s p<4294967296:=numV_bd _ _ _ _ (by decide)
theorem prY_bd (s:ByteArray) (p:Nat):0≤prY s p∧prY s p<4294967296:=numV_bd _ _ _ _ (by decide)
theorem take_f {s:ByteArray} {p:Nat} {f:Bool} {m:Int} (h:(Oct.takeRes s p f m).2.2=false):f=false∧0≤m∧(p:Int)+m≤s.size∧Oct.takeRes s p f m=(s.extract p (p+m.toNat),p+m.toNat,false):=by
 unfold Oct.takeRes at h⊢
 split at h
 ·exact absurd h (by simp)
 ·rename_i hh
  rw[if_neg hh]
  have hf:f=false:=by cases f<;>simp_all
  exact ⟨hf,by omega,by omega,rfl⟩
theorem var_f {s:ByteArray} {p:Nat} {f:Bool} (h:(Oct.varRes s p f).2.2=false):f=false:=by
 cases f with
 |false=>rfl
 |true=>unfold Oct.varRes at h;simp at h
theorem prQ_size {s:ByteArray} {p:Nat} (h:(pt5 s p).2=false):(prQ s p).size=4:=by
 have h4:=(take_f h).1
 have h3:=var_f h4
 obtain ⟨_,_,h5,h6⟩:=take_f (show (Oct.takeRes s (pt2 s p).1 (pt2 s p).2 4).2.2=false from h3)
 unfold prQ
 rw[h6,ByteArray.size_extract]
 show min ((pt2 s p).1+4) s.size-(pt2 s p).1=4
 omega
theorem bad1_f {s:ByteArray} {p:Nat} (h:bad1 s p=false):(pt5 s p).2=false∧prX s p-8192<8192∧prY s p-8192<8192∧1≤prZ s p∧prZ s p≤257:=by
 unfold bad1 bd3 bd2 bd1 at h
 cases h1:(pt5 s p).2
 ·rw[h1] at h
  by_cases h2:prX s p-8192≥8192
  ·simp[h2] at h
  ·by_cases h3:prY s p-8192≥8192
   ·simp[h2,h3] at h
   ·by_cases h4:prZ s p<1
    ·simp[h2,h3,h4] at h
    ·by_cases h5:prZ s p>257
     ·simp[h2,h3,h4,h5] at h
     ·exact ⟨rfl,by omega,by omega,by omega,by omega⟩
 ·rw[h1] at h;simp at h
theorem okE_t {s:ByteArray} {k:Nat} (h1:bad1 s (posn s k)=false) (h2:bad2 s k=false):okE s k=true:=by unfold okE;rw[h1,h2];rfl
theorem okE_1 {s:ByteArray} {k:Nat} (h1:bad1 s (posn s k)=true):okE s k=false:=by unfold okE;rw[h1];rfl
theorem okE_2 {s:ByteArray} {k:Nat} (h2:bad2 s k=true):okE s k=false:=by unfold okE;rw[h2,Bool.not_true,Bool.and_false]
theorem hdBad_f {s:ByteArray} (h:hdBad s=false):(Oct.varRes s 0 false).2.2=false∧nP s=(nN s:Nat)∧nN s≤1024:=by
 unfold hdBad at h
 cases h1:(Oct.varRes s 0 false).2.2
 ·rw[h1] at h
  by_cases h2:nP s<0
  ·simp[h2] at h
  ·by_cases h3:nP s>1024
   ·simp[h2,h3] at h
   ·unfold nN;exact ⟨rfl,by omega,by omega⟩
 ·rw[h1] at h;simp at h
theorem apB123 {need:Nat} (k:need*49≤140737488355328):ApB Tryz.prog 123 need:=apB (bytes:=48) (by kernel_rfl) k
theorem apB3 {need:Nat} (k:need*9≤140737488355328):ApB Tryz.prog 3 need:=apB (bytes:=8) (by kernel_rfl) k
theorem rd1 (s:ByteArray) (p:Nat) (hs:s.size≤1000000000000000000) (hp:p≤s.size) (id n:Nat):CallOK Tryz.prog 60 [.c (.l (.p id 0)),iv .i64 2] [(id,⟨[.v (.string s),.v (.int .i64 (p:Nat)),.v (.bool false)],.t 174⟩)] n (iv .i64 (prX s p)) [(id,⟨[.v (.string s),.v (.int .i64 ((pt1 s p).1:Nat)),.v (.bool (pt1 s p).2)],.t 174⟩)] 0:=by
 have h1:=pt1_le hp
 have h2:=pt2_le hp
 have h3:=pt3_le hp
 have h4:=pt4_le hp
 exact C60 id s ((p:Nat):Int) (false) 2 hs (by omega) (by omega) n
theorem rd2 (s:ByteArray) (p:Nat) (hs:s.size≤1000000000000000000) (hp:p≤s.size) (id n:Nat):CallOK Tryz.prog 60 [.c (.l (.p id 0)),iv .i64 2] [(id,⟨[.v (.string s),.v (.int .i64 ((pt1 s p).1:Nat)),.v (.bool (pt1 s p).2)],.t 174⟩)] n (iv .i64 (prY s p)) [(id,⟨[.v (.string s),.v (.int .i64 ((pt2 s p).1:Nat)),.v (.bool (pt2 s p).2)],.t 174⟩)] 0:=by
 have h1:=pt1_le hp
 have h2:=pt2_le hp
 have h3:=pt3_le hp
 have h4:=pt4_le hp
 exact C60 id s (((pt1 s p).1:Nat):Int) ((pt1 s p).2) 2 hs (by omega) (by omega) n
theorem rd3 (s:ByteArray) (p:Nat) (hs:s.size≤1000000000000000000) (hp:p≤s.size) (id n:Nat):CallOK Tryz.prog 64 [.c (.l (.p id 0)),iv .i64 4] [(id,⟨[.v (.string s),.v (.int .i64 ((pt2 s p).1:Nat)),.v (.bool (pt2 s p).2)],.t 174⟩)] n (.c (.l (.v (.string (prQ s p))))) [(id,⟨[.v (.string s),.v (.int .i64 ((pt3 s p).1:Nat)),.v (.bool (pt3 s p).2)],.t 174⟩)] 0:=by
 have h1:=pt1_le hp
 have h2:=pt2_le hp
 have h3:=pt3_le hp
 have h4:=pt4_le hp
 exact C64 id s (((pt2 s p).1:Nat):Int) ((pt2 s p).2) 4 hs (by omega) (by omega) n
theorem rd4 (s:ByteArray) (p:Nat) (hs:s.size≤1000000000000000000) (hp:p≤s.size) (id n:Nat):CallOK Tryz.prog 125 [.c (.l (.p id 0))] [(id,⟨[.v (.string s),.v (.int .i64 ((pt3 s p).1:Nat)),.v (.bool (pt3 s p).2)],.t 174⟩)] n (iv .i64 (prZ s p)) [(id,⟨[.v (.string s),.v (.int .i64 ((pt4 s p).1:Nat)),.v (.bool (pt4 s p).2)],.t 174⟩)] 0:=by
 have h1:=pt1_le hp
 have h2:=pt2_le hp
 have h3:=pt3_le hp
 have h4:=pt4_le hp
 exact C125 id s (((pt3 s p).1:Nat):Int) ((pt3 s p).2)  hs (by omega) (by omega) n
theorem rd5 (s:ByteArray) (p:Nat) (hs:s.size≤1000000000000000000) (hp:p≤s.size) (id n:Nat):CallOK Tryz.prog 60 [.c (.l (.p id 0)),iv .i64 4] [(id,⟨[.v (.string s),.v (.int .i64 ((pt4 s p).1:Nat)),.v (.bool (pt4 s p).2)],.t 174⟩)] n (iv .i64 (prS s p)) [(id,⟨[.v (.string s),.v (.int .i64 ((pt5 s p).1:Nat)),.v (.bool (pt5 s p).2)],.t 174⟩)] 0:=by
 have h1:=pt1_le hp
 have h2:=pt2_le hp
 have h3:=pt3_le hp
 have h4:=pt4_le hp
 exact C60 id s (((pt4 s p).1:Nat):Int) ((pt4 s p).2) 4 hs (by omega) (by omega) n
theorem rd6 (s:ByteArray) (p:Nat) (id n:Nat):CallOK Tryz.prog 61 [.c (.l (.p id 0))] [(id,⟨[.v (.string s),.v (.int .i64 ((pt5 s p).1:Nat)),.v (.bool (pt5 s p).2)],.t 174⟩)] n (bv (pt5 s p).2) [] 0:=C61 id s ((pt5 s p).1:Nat) (pt5 s p).2 (by omega) n
theorem enters127:Enters Tryz.prog 127:=fun args w=>by go_simp
def cz_C127:Cz:={
 ct:=(fun f=>match f with
 |_=>none)
 eq:=(fun t=>match t with
 |_=>none)
 raw:=[],sym:=[1,2,3,4,5,6,7,8,9,10,11,12],nf:=[],ap:=true,off:=[],on:=[],lp:=fun _=>none,un:=0}
set_option maxRecDepth 100000 in
set_option maxHeartbeats 400000 in
theorem C127 (q:ByteArray) (hq:q.size=4) (n:Nat):CallOK Tryz.prog 127 [.c (.l (.v (.string q)))] [] n (ag [ub (q.get! 0),ub (q.get! 1),ub (q.get! 2),ub (q.get! 3)]) [] 0:=by
 refine CallOK.any ?_ (by kernel_rfl) (by kernel_rfl) n
 refine call_ok (cx:=cz_C127) (nm:=[]) rfl Tryz.func127 (body:=Tryz.f127.body.getD .skip) rfl enters127 (by kernel_rfl) ?_
 apply of_eq (q:=InR 0 q.size∧InR 1 q.size∧InR 2 q.size∧InR 3 q.size∧Le (ag [Leaf.v (Value.int IntKind.u8 (Nat.cast ((q.get! (Int.toNat 0)).toNat):Int)),Leaf.v (Value.int IntKind.u8 (Nat.cast ((q.get! (Int.toNat 1)).toNat):Int)),Leaf.v (Value.int IntKind.u8 (Nat.cast ((q.get! (Int.toNat 2)).toNat):Int)),Leaf.v (Value.int IntKind.u8 (Nat.cast ((q.get! (Int.toNat 3)).toNat):Int))]) (ag [Leaf.v (Value.int IntKind.u8 (Nat.cast ((q.get! 0).toNat):Int)),Leaf.v (Value.int IntKind.u8 (Nat.cast ((q.get! 1).toNat):Int)),Leaf.v (Value.int IntKind.u8 (Nat.cast ((q.get! 2).toNat):Int)),Leaf.v (Value.int IntKind.u8 (Nat.cast ((q.get! 3).toNat):Int))])∧True) (by kernel_rfl)
 repeat' (first|exact trivial|with_reducible apply And.intro|(with_reducible apply HB.mk)|with_reducible intro _)
 all_goals first
  |(exact ⟨by omega,by omega⟩)
  |(exact Le.of rfl)
theorem enters126:Enters Tryz.prog 126:=fun args w=>by go_simp
def cz_C126:Cz:={
 ct:=(fun f=>match f with
 |_=>none)
 eq:=(fun t=>match t with
 |_=>none)
 raw:=[],sym:=[],nf:=[],ap:=true,off:=[],on:=[],lp:=fun _=>none,un:=0}
set_option maxRecDepth 100000 in
set_option maxHeartbeats 400000 in
theorem C126 (ax ay bx by_:Int)  (n:Nat):CallOK Tryz.prog 126 [ag [li ax,li ay],ag [li bx,li by_]] [] n (bv (lesB ax ay bx by_)) [] 0:=by
 refine CallOK.any ?_ (by kernel_rfl) (by kernel_rfl) n
 refine call_ok (cx:=cz_C126) (nm:=[]) rfl Tryz.func126 (body:=Tryz.f126.body.getD .skip) rfl enters126 (by kernel_rfl) ?_
 apply of_eq (q:=((!decide (ay<by_))=true→(!decide (ay<by_))=true∧True)∧((!decide (ay<by_))=true→(!decide (ay<by_))=true∧True)∧((!decide (ay<by_))=true→(!decide (ay<by_))=true∧(!decide (ay<by_))=true∧True)∧((!decide (ay<by_))=true→(!decide (ay<by_))=true∧True)∧((!decide (ay<by_)&&ay==by_)=true→(!decide (ay<by_)&&ay==by_)=true∧True)∧((!decide (ay<by_)&&ay==by_)=true→(!decide (ay<by_)&&ay==by_)=true∧True)∧((!decide (ay<by_)&&ay==by_)=true→(!decide (ay<by_)&&ay==by_)=true∧(!decide (ay<by_)&&ay==by_)=true∧True)∧((!decide (ay<by_))=true→(!decide (ay<by_))=true∧((ay==by_)=true→(!decide (ay<by_)&&ay==by_)=true)∧True)∧(decide (ay<by_)=false→(!decide (ay<by_))=true)∧Le (bv (bif decide (ay<by_) then true else bif ay==by_ then decide (ax<bx) else false)) (bv (lesB ax ay bx by_))∧True) (by kernel_rfl)
 repeat' (first|exact trivial|with_reducible apply And.intro|(with_reducible apply HB.mk)|with_reducible intro _)
 all_goals first
  |(assumption)
  |(refine Le.bool ?_;unfold lesB;by_cases h1:ay<by_<;>by_cases h2:ay=by_<;>by_cases h3:ax<bx<;>simp[h1,h2,h3])
  |(simp only[*,Bool.and_self,Bool.not_false,Bool.not_true];done)
def I62 (s:ByteArray) (k:Nat):St:=⟨[(28,iv .i64 (k:Nat)),(27,iv .i64 (nN s:Nat)),(5,.c (.l (.p 0 0))),(2,.c (.l (.o 1 k))),(3,.c (.l (.o 2 k)))],[(0,some ⟨[.v (.string s),.v (.int .i64 (posn s k:Nat)),.v (.bool false)],.t 174⟩),(1,some ⟨ens (ents s k),.r 123 8 1⟩),(2,some ⟨szs s k,.r 3 1 2⟩)],3,96,[2,1,0],(0)⟩
def Q62:St:=⟨[(2,.c (.l (.v (.slice none 0 0)))),(3,.c (.l (.v (.slice none 0 0)))),(4,iv .i64 11)],[],3,96,[2,1,0],(0)⟩
def cz_R62p (s:ByteArray) (k:Nat):Cz:={
 ct:=(fun f=>match f with
 |58=>some fun _ _S ar=>match ar with | [.c (.l (.v (.string s)))]=>some {v:=.c (.l (.p _S.n 0)),rd:=[],wr:=[(_S.n,⟨[.v (.string s),.v (.int .i64 0),.v (.bool false)],.t 174⟩)],nw:=1}|_=>none
 |60=>some fun _ap _S ar=>match ar with | [.c (.l (.p i _)),.c (.l (.v (.int _ m)))]=>(match _S.E with|(30,_)::_=>some ⟨iv .i64 (prX s (posn s k)),[i],[(i,⟨[.v (.string s),.v (.int .i64 ((pt1 s (posn s k)).1:Nat)),.v (.bool (pt1 s (posn s k)).2)],.t 174⟩)],0,[]⟩|(33,_)::_=>some ⟨iv .i64 (prY s (posn s k)),[i],[(i,⟨[.v (.string s),.v (.int .i64 ((pt2 s (posn s k)).1:Nat)),.v (.bool (pt2 s (posn s k)).2)],.t 174⟩)],0,[]⟩|(40,_)::_=>some ⟨iv .i64 (prS s (posn s k)),[i],[(i,⟨[.v (.string s),.v (.int .i64 ((pt5 s (posn s k)).1:Nat)),.v (.bool (pt5 s (posn s k)).2)],.t 174⟩)],0,[]⟩|_=>none)|_=>none
 |61=>some fun _ap _S ar=>match ar with | [.c (.l (.p i _))]=>(match _S.E with|(42,_)::_=>some ⟨bv (pt5 s (posn s k)).2,[i],[],0,[]⟩|_=>none)|_=>none
 |63=>some fun _ _S ar=>match ar with | [.c (.l (.p i _))]=>some {v:=V63 _S i,rd:=[i],wr:=[],nw:=0}|_=>none
 |64=>some fun _ap _S ar=>match ar with | [.c (.l (.p i _)),.c (.l (.v (.int _ m)))]=>(match _S.E with|(36,_)::_=>some ⟨.c (.l (.v (.string (prQ s (posn s k))))),[i],[(i,⟨[.v (.string s),.v (.int .i64 ((pt3 s (posn s k)).1:Nat)),.v (.bool (pt3 s (posn s k)).2)],.t 174⟩)],0,[]⟩|_=>none)|_=>none
 |125=>some fun _ap _S ar=>match ar with | [.c (.l (.p i _))]=>(match _S.E with|(38,_)::_=>some ⟨iv .i64 (prZ s (posn s k)),[i],[(i,⟨[.v (.string s),.v (.int .i64 ((pt4 s (posn s k)).1:Nat)),.v (.bool (pt4 s (posn s k)).2)],.t 174⟩)],0,[]⟩|_=>none)|_=>none
 |126=>some fun _ _S ar=>match ar with | [.c (.agg [.v (.int _ ax),.v (.int _ ay)]),.c (.agg [.v (.int _ cx),.v (.int _ cy)])]=>some {v:=bv (lesB ax ay cx cy),rd:=[],wr:=[],nw:=0}|_=>none
 |127=>some fun _ _S ar=>match ar with | [.c (.l (.v (.string q)))]=>some {v:=ag [ub (q.get! 0),ub (q.get! 1),ub (q.get! 2),ub (q.get! 3)],rd:=[],wr:=[],nw:=0}|_=>none
 |_=>none)
 eq:=(fun t=>match t with
 |_=>none)
 raw:=[],sym:=[71,73,85,89],nf:=[(32,iv .i64 (enE s k).X),(35,iv .i64 (enE s k).Y),(47,bv (bd1 s (posn s k))),(51,bv (bd2 s (posn s k))),(55,bv (bd3 s (posn s k))),(59,bv (bad1 s (posn s k))),(62,.c (.agg [li (enE s k).X,li (enE s k).Y])),(73,.c (.agg [li (enE s (k-1)).X,li (enE s (k-1)).Y])),(74,.c (.agg [li (enE s k).X,li (enE s k).Y])),(77,bv (bad2 s k)),(79,.c (.agg [li (enE s k).X,li (enE s k).Y])),(83,.c (.agg (en (enE s k))))],ap:=true,off:=[],on:=[],lp:=fun _=>none,un:=0,wh:=[40]}
set_option maxRecDepth 100000 in
theorem R62p (s:ByteArray) (k:Nat)  (K:Exit→St→Prop) (h:HB (decide ((Nat.cast k:Int)<(Nat.cast ((nN s)):Int))) (CallOKd Tryz.prog 60 [] [SV.c (Cp.l (Leaf.p 0 0)),iv IntKind.i64 2] [(0,Blk.mk [Leaf.v (Value.string s),li (Nat.cast ((posn s k)):Int),lb false] (BT.t 174))] 3 (iv IntKind.i64 (prX s (posn s k))) [(0,Blk.mk [Leaf.v (Value.string s),li (Nat.cast ((pt1 s (posn s k)).fst):Int),lb (pt1 s (posn s k)).snd] (BT.t 174))] 0∧IntKind.i64.wrap (prX s (posn s k)-8192)=prX s (posn s k)-8192∧Le (iv IntKind.i64 (prX s (posn s k)-8192)) (iv IntKind.i64 (enE s k).X)∧CallOKd Tryz.prog 60 [] [SV.c (Cp.l (Leaf.p 0 0)),iv IntKind.i64 2] [(0,Blk.mk [Leaf.v (Value.string s),li (Nat.cast ((pt1 s (posn s k)).fst):Int),lb (pt1 s (posn s k)).snd] (BT.t 174))] 3 (iv IntKind.i64 (prY s (posn s k))) [(0,Blk.mk [Leaf.v (Value.string s),li (Nat.cast ((pt2 s (posn s k)).fst):Int),lb (pt2 s (posn s k)).snd] (BT.t 174))] 0∧IntKind.i64.wrap (prY s (posn s k)-8192)=prY s (posn s k)-8192∧Le (iv IntKind.i64 (prY s (posn s k)-8192)) (iv IntKind.i64 (enE s k).Y)∧CallOKd Tryz.prog 64 [] [SV.c (Cp.l (Leaf.p 0 0)),iv IntKind.i64 4] [(0,Blk.mk [Leaf.v (Value.string s),li (Nat.cast ((pt2 s (posn s k)).fst):Int),lb (pt2 s (posn s k)).snd] (BT.t 174))] 3 (SV.c (Cp.l (Leaf.v (Value.string (prQ s (posn s k)))))) [(0,Blk.mk [Leaf.v (Value.string s),li (Nat.cast ((pt3 s (posn s k)).fst):Int),lb (pt3 s (posn s k)).snd] (BT.t 174))] 0∧CallOKd Tryz.prog 125 [] [SV.c (Cp.l (Leaf.p 0 0))] [(0,Blk.mk [Leaf.v (Value.string s),li (Nat.cast ((pt3 s (posn s k)).fst):Int),lb (pt3 s (posn s k)).snd] (BT.t 174))] 3 (iv IntKind.i64 (prZ s (posn s k))) [(0,Blk.mk [Leaf.v (Value.string s),li (Nat.cast ((pt4 s (posn s k)).fst):Int),lb (pt4 s (posn s k)).snd] (BT.t 174))] 0∧CallOKd Tryz.prog 60 [] [SV.c (Cp.l (Leaf.p 0 0)),iv IntKind.i64 4] [(0,Blk.mk [Leaf.v (Value.string s),li (Nat.cast ((pt4 s (posn s k)).fst):Int),lb (pt4 s (posn s k)).snd] (BT.t 174))] 3 (iv IntKind.i64 (prS s (posn s k))) [(0,Blk.mk [Leaf.v (Value.string s),li (Nat.cast ((pt5 s (posn s k)).fst):Int),lb (pt5 s (posn s k)).snd] (BT.t 174))] 0∧CallOKd Tryz.prog 61 [] [SV.c (Cp.l (Leaf.p 0 0))] [(0,Blk.mk [Leaf.v (Value.string s),li (Nat.cast ((pt5 s (posn s k)).fst):Int),lb (pt5 s (posn s k)).snd] (BT.t 174))] 3 (bv (pt5 s (posn s k)).snd) [] 0∧((!(pt5 s (posn s k)).snd)=true→(!(pt5 s (posn s k)).snd)=true∧True)∧((pt5 s (posn s k)).snd=false→(!(pt5 s (posn s k)).snd)=true)∧Le (bv (bif (pt5 s (posn s k)).snd then true else decide ((enE s k).X≥8192))) (bv (bd1 s (posn s k)))∧((!bd1 s (posn s k))=true→(!bd1 s (posn s k))=true∧True)∧(bd1 s (posn s k)=false→(!bd1 s (posn s k))=true)∧Le (bv (bif bd1 s (posn s k) then true else decide ((enE s k).Y≥8192))) (bv (bd2 s (posn s k)))∧((!bd2 s (posn s k))=true→(!bd2 s (posn s k))=true∧True)∧(bd2 s (posn s k)=false→(!bd2 s (posn s k))=true)∧Le (bv (bif bd2 s (posn s k) then true else decide (prZ s (posn s k)<1))) (bv (bd3 s (posn s k)))∧((!bd3 s (posn s k))=true→(!bd3 s (posn s k))=true∧True)∧(bd3 s (posn s k)=false→(!bd3 s (posn s k))=true)∧Le (bv (bif bd3 s (posn s k) then true else decide (prZ s (posn s k)>257))) (bv (bad1 s (posn s k)))∧HB (bad1 s (posn s k)) (wkK 3 K Exit.ret (St.mk [(2,SV.c (Cp.l (Leaf.v (Value.slice none 0 0)))),(3,SV.c (Cp.l (Leaf.v (Value.slice none 0 0)))),(4,iv IntKind.i64 11),(5,SV.c (Cp.l (Leaf.p 0 0))),(27,iv IntKind.i64 (Nat.cast ((nN s)):Int)),(28,iv IntKind.i64 (Nat.cast k:Int))] [(0,some (Blk.mk [Leaf.v (Value.string s),li (Nat.cast ((pt5 s (posn s k)).fst):Int),lb (pt5 s (posn s k)).snd] (BT.t 174))),(0,some (Blk.mk [Leaf.v (Value.string s),li (Nat.cast ((pt4 s (posn s k)).fst):Int),lb (pt4 s (posn s k)).snd] (BT.t 174))),(0,some (Blk.mk [Leaf.v (Value.string s),li (Nat.cast ((pt3 s (posn s k)).fst):Int),lb (pt3 s (posn s k)).snd] (BT.t 174))),(0,some (Blk.mk [Leaf.v (Value.string s),li (Nat.cast ((pt2 s (posn s k)).fst):Int),lb (pt2 s (posn s k)).snd] (BT.t 174))),(0,some (Blk.mk [Leaf.v (Value.string s),li (Nat.cast ((pt1 s (posn s k)).fst):Int),lb (pt1 s (posn s k)).snd] (BT.t 174))),(0,some (Blk.mk [Leaf.v (Value.string s),li (Nat.cast ((posn s k)):Int),lb false] (BT.t 174))),(1,some (Blk.mk (ens (ents s k)) (BT.r 123 8 1))),(2,some (Blk.mk (szs s k) (BT.r 3 1 2)))] 3 96 [0,0,0,0,0,2,1,0] 0)) (Le (ag [li (enE s k).X,li (enE s k).Y]) (ag [li (enE s k).X,li (enE s k).Y])∧0=0∧2=2∧(decide ((Nat.cast k:Int)>0)=true→decide ((Nat.cast k:Int)>0)=true∧True)∧(decide ((Nat.cast k:Int)>0)=true→decide ((Nat.cast k:Int)>0)=true∧IntKind.i64.wrap ((Nat.cast k:Int)-1)=(Nat.cast k:Int)-1∧True)∧(decide ((Nat.cast k:Int)>0)=true→decide ((Nat.cast k:Int)>0)=true∧decide ((Nat.cast k:Int)>0)=true∧InR ((Nat.cast k:Int)-1) k∧True)∧(decide ((Nat.cast k:Int)>0)=true→decide ((Nat.cast k:Int)>0)=true∧True)∧(decide ((Nat.cast k:Int)>0)=true→decide ((Nat.cast k:Int)>0)=true∧((Nat.cast k:Int)-1).toNat*8+0+2≤(ens (ents s k)).length∧Le (ag (List.take 2 (List.drop (((Nat.cast k:Int)-1).toNat*8+0) (ens (ents s k))))) (ag [li (enE s (k-1)).X,li (enE s (k-1)).Y])∧True)∧(decide ((Nat.cast k:Int)>0)=true→Le (ag [li (enE s k).X,li (enE s k).Y]) (ag [li (enE s k).X,li (enE s k).Y])∧True)∧(decide ((Nat.cast k:Int)>0)=true→decide ((Nat.cast k:Int)>0)=true∧decide ((Nat.cast k:Int)>0)=true∧CallOKd Tryz.prog 126 [] [ag [li (enE s (k-1)).X,li (enE s (k-1)).Y],ag [li (enE s k).X,li (enE s k).Y]] [] 4 (bv (lesB (enE s (k-1)).X (enE s (k-1)).Y (enE s k).X (enE s k).Y)) [] 0∧True)∧(decide ((Nat.cast k:Int)>0)=true→decide ((Nat.cast k:Int)>0)=true∧True)∧(decide ((Nat.cast k:Int)>0)=true→decide ((Nat.cast k:Int)>0)=true)∧Le (bv (bif decide ((Nat.cast k:Int)>0) then !lesB (enE s (k-1)).X (enE s (k-1)).Y (enE s k).X (enE s k).Y else false)) (bv (bad2 s k))∧HB (bad2 s k) (wkK 3 K Exit.ret (St.mk [(2,SV.c (Cp.l (Leaf.v (Value.slice none 0 0)))),(3,SV.c (Cp.l (Leaf.v (Value.slice none 0 0)))),(4,iv IntKind.i64 11),(5,SV.c (Cp.l (Leaf.p 0 0))),(27,iv IntKind.i64 (Nat.cast ((nN s)):Int)),(28,iv IntKind.i64 (Nat.cast k:Int))] [(3,some (Blk.mk [li (enE s k).X,li (enE s k).Y] (BT.t 40))),(3,some (Blk.mk [li 0,li 0] (BT.t 40))),(0,some (Blk.mk [Leaf.v (Value.string s),li (Nat.cast ((pt5 s (posn s k)).fst):Int),lb (pt5 s (posn s k)).snd] (BT.t 174))),(0,some (Blk.mk [Leaf.v (Value.string s),li (Nat.cast ((pt4 s (posn s k)).fst):Int),lb (pt4 s (posn s k)).snd] (BT.t 174))),(0,some (Blk.mk [Leaf.v (Value.string s),li (Nat.cast ((pt3 s (posn s k)).fst):Int),lb (pt3 s (posn s k)).snd] (BT.t 174))),(0,some (Blk.mk [Leaf.v (Value.string s),li (Nat.cast ((pt2 s (posn s k)).fst):Int),lb (pt2 s (posn s k)).snd] (BT.t 174))),(0,some (Blk.mk [Leaf.v (Value.string s),li (Nat.cast ((pt1 s (posn s k)).fst):Int),lb (pt1 s (posn s k)).snd] (BT.t 174))),(0,some (Blk.mk [Leaf.v (Value.string s),li (Nat.cast ((posn s k)):Int),lb false] (BT.t 174))),(1,some (Blk.mk (ens (ents s k)) (BT.r 123 8 1))),(2,some (Blk.mk (szs s k) (BT.r 3 1 2)))] 4 96 [3,3,0,0,0,0,0,2,1,0] 0)) (((Le (ag [li (enE s k).X,li (enE s k).Y]) (ag [li (enE s k).X,li (enE s k).Y])∧CallOKd Tryz.prog 127 [] [SV.c (Cp.l (Leaf.v (Value.string (prQ s (posn s k)))))] [] 4 (ag [Leaf.v (Value.int IntKind.u8 (Nat.cast (((prQ s (posn s k)).get! 0).toNat):Int)),Leaf.v (Value.int IntKind.u8 (Nat.cast (((prQ s (posn s k)).get! 1).toNat):Int)),Leaf.v (Value.int IntKind.u8 (Nat.cast (((prQ s (posn s k)).get! 2).toNat):Int)),Leaf.v (Value.int IntKind.u8 (Nat.cast (((prQ s (posn s k)).get! 3).toNat):Int))]) [] 0∧Le (ag [li (enE s k).X,li (enE s k).Y,Leaf.v (Value.int IntKind.u8 (Nat.cast (((prQ s (posn s k)).get! 0).toNat):Int)),Leaf.v (Value.int IntKind.u8 (Nat.cast (((prQ s (posn s k)).get! 1).toNat):Int)),Leaf.v (Value.int IntKind.u8 (Nat.cast (((prQ s (posn s k)).get! 2).toNat):Int)),Leaf.v (Value.int IntKind.u8 (Nat.cast (((prQ s (posn s k)).get! 3).toNat):Int)),li (prS s (posn s k)),Leaf.v (Value.string (ByteArray.mk #[]))]) (ag (en (enE s k)))∧(ens (ents s k)).length=k*8∧8=8∧(szs s k).length=k*1∧1=1∧IntKind.i64.wrap ((Nat.cast k:Int)+1)=(Nat.cast k:Int)+1∧RoundTo Tryz.prog ((getLoop 6 (Tryz.f62.body.getD Code.skip)).getD Code.skip) 3 (wkK 3 K) (St.mk [(2,SV.c (Cp.l (Leaf.o 1 (k+1)))),(3,SV.c (Cp.l (Leaf.o 2 (k+1)))),(4,SV.u),(5,SV.c (Cp.l (Leaf.p 0 0))),(27,iv IntKind.i64 (Nat.cast ((nN s)):Int)),(28,iv IntKind.i64 ((Nat.cast k:Int)+1))] [(2,some (Blk.mk (szs s k++[li (prZ s (posn s k))]) (BT.r 3 1 2))),(5,some (Blk.mk [li (prZ s (posn s k))] (BT.r 3 1 5))),(1,some (Blk.mk (ens (ents s k)++splice [li 0,li 0,Leaf.v (Value.int IntKind.u8 0),Leaf.v (Value.int IntKind.u8 0),Leaf.v (Value.int IntKind.u8 0),Leaf.v (Value.int IntKind.u8 0),li 0,Leaf.v (Value.string (ByteArray.mk #[]))] 0 (en (enE s k))) (BT.r 123 8 1))),(4,some (Blk.mk (splice [li 0,li 0,Leaf.v (Value.int IntKind.u8 0),Leaf.v (Value.int IntKind.u8 0),Leaf.v (Value.int IntKind.u8 0),Leaf.v (Value.int IntKind.u8 0),li 0,Leaf.v (Value.string (ByteArray.mk #[]))] 0 (en (enE s k))) (BT.r 123 8 4))),(3,some (Blk.mk [li (enE s k).X,li (enE s k).Y] (BT.t 40))),(3,some (Blk.mk [li 0,li 0] (BT.t 40))),(0,some (Blk.mk [Leaf.v (Value.string s),li (Nat.cast ((pt5 s (posn s k)).fst):Int),lb (pt5 s (posn s k)).snd] (BT.t 174))),(0,some (Blk.mk [Leaf.v (Value.string s),li (Nat.cast ((pt4 s (posn s k)).fst):Int),lb (pt4 s (posn s k)).snd] (BT.t 174))),(0,some (Blk.mk [Leaf.v (Value.string s),li (Nat.cast ((pt3 s (posn s k)).fst):Int),lb (pt3 s (posn s k)).snd] (BT.t 174))),(0,some (Blk.mk [Leaf.v (Value.string s),li (Nat.cast ((pt2 s (posn s k)).fst):Int),lb (pt2 s (posn s k)).snd] (BT.t 174))),(0,some (Blk.mk [Leaf.v (Value.string s),li (Nat.cast ((pt1 s (posn s k)).fst):Int),lb (pt1 s (posn s k)).snd] (BT.t 174))),(0,some (Blk.mk [Leaf.v (Value.string s),li (Nat.cast ((posn s k)):Int),lb false] (BT.t 174))),(1,some (Blk.mk (ens (ents s k)) (BT.r 123 8 1))),(2,some (Blk.mk (szs s k) (BT.r 3 1 2)))] 6 96 [2,5,1,4,3,3,0,0,0,0,0,2,1,0] 0))∧Le (ag [li (enE s k).X,li (enE s k).Y]) (ag [li (enE s k).X,li (enE s k).Y])∧CallOKd Tryz.prog 127 [] [SV.c (Cp.l (Leaf.v (Value.string (prQ s (posn s k)))))] [] 4 (ag [Leaf.v (Value.int IntKind.u8 (Nat.cast (((prQ s (posn s k)).get! 0).toNat):Int)),Leaf.v (Value.int IntKind.u8 (Nat.cast (((prQ s (posn s k)).get! 1).toNat):Int)),Leaf.v (Value.int IntKind.u8 (Nat.cast (((prQ s (posn s k)).get! 2).toNat):Int)),Leaf.v (Value.int IntKind.u8 (Nat.cast (((prQ s (posn s k)).get! 3).toNat):Int))]) [] 0∧Le (ag [li (enE s k).X,li (enE s k).Y,Leaf.v (Value.int IntKind.u8 (Nat.cast (((prQ s (posn s k)).get! 0).toNat):Int)),Leaf.v (Value.int IntKind.u8 (Nat.cast (((prQ s (posn s k)).get! 1).toNat):Int)),Leaf.v (Value.int IntKind.u8 (Nat.cast (((prQ s (posn s k)).get! 2).toNat):Int)),Leaf.v (Value.int IntKind.u8 (Nat.cast (((prQ s (posn s k)).get! 3).toNat):Int)),li (prS s (posn s k)),Leaf.v (Value.string (ByteArray.mk #[]))]) (ag (en (enE s k)))∧[(1,k+1,false)]=[(1,k+1,false)]∧ApB Tryz.prog 123 (k+1)∧(ens (ents s k)).length=k*8∧8=8∧(szs s k).length=k*1∧1=1∧IntKind.i64.wrap ((Nat.cast k:Int)+1)=(Nat.cast k:Int)+1∧RoundTo Tryz.prog ((getLoop 6 (Tryz.f62.body.getD Code.skip)).getD Code.skip) 3 (wkK 3 K) (St.mk [(2,SV.c (Cp.l (Leaf.o 5 (k+1)))),(3,SV.c (Cp.l (Leaf.o 2 (k+1)))),(4,SV.u),(5,SV.c (Cp.l (Leaf.p 0 0))),(27,iv IntKind.i64 (Nat.cast ((nN s)):Int)),(28,iv IntKind.i64 ((Nat.cast k:Int)+1))] [(2,some (Blk.mk (szs s k++[li (prZ s (posn s k))]) (BT.r 3 1 2))),(6,some (Blk.mk [li (prZ s (posn s k))] (BT.r 3 1 6))),(5,some (Blk.mk (ens (ents s k)++splice [li 0,li 0,Leaf.v (Value.int IntKind.u8 0),Leaf.v (Value.int IntKind.u8 0),Leaf.v (Value.int IntKind.u8 0),Leaf.v (Value.int IntKind.u8 0),li 0,Leaf.v (Value.string (ByteArray.mk #[]))] 0 (en (enE s k))) (BT.r 123 8 5))),(4,some (Blk.mk (splice [li 0,li 0,Leaf.v (Value.int IntKind.u8 0),Leaf.v (Value.int IntKind.u8 0),Leaf.v (Value.int IntKind.u8 0),Leaf.v (Value.int IntKind.u8 0),li 0,Leaf.v (Value.string (ByteArray.mk #[]))] 0 (en (enE s k))) (BT.r 123 8 4))),(3,some (Blk.mk [li (enE s k).X,li (enE s k).Y] (BT.t 40))),(3,some (Blk.mk [li 0,li 0] (BT.t 40))),(0,some (Blk.mk [Leaf.v (Value.string s),li (Nat.cast ((pt5 s (posn s k)).fst):Int),lb (pt5 s (posn s k)).snd] (BT.t 174))),(0,some (Blk.mk [Leaf.v (Value.string s),li (Nat.cast ((pt4 s (posn s k)).fst):Int),lb (pt4 s (posn s k)).snd] (BT.t 174))),(0,some (Blk.mk [Leaf.v (Value.string s),li (Nat.cast ((pt3 s (posn s k)).fst):Int),lb (pt3 s (posn s k)).snd] (BT.t 174))),(0,some (Blk.mk [Leaf.v (Value.string s),li (Nat.cast ((pt2 s (posn s k)).fst):Int),lb (pt2 s (posn s k)).snd] (BT.t 174))),(0,some (Blk.mk [Leaf.v (Value.string s),li (Nat.cast ((pt1 s (posn s k)).fst):Int),lb (pt1 s (posn s k)).snd] (BT.t 174))),(0,some (Blk.mk [Leaf.v (Value.string s),li (Nat.cast ((posn s k)):Int),lb false] (BT.t 174))),(1,some (Blk.mk (ens (ents s k)) (BT.r 123 8 1))),(2,some (Blk.mk (szs s k) (BT.r 3 1 2)))] 7 96 [2,6,5,4,3,3,0,0,0,0,0,2,1,0] 0))∧(Le (ag [li (enE s k).X,li (enE s k).Y]) (ag [li (enE s k).X,li (enE s k).Y])∧CallOKd Tryz.prog 127 [] [SV.c (Cp.l (Leaf.v (Value.string (prQ s (posn s k)))))] [] 4 (ag [Leaf.v (Value.int IntKind.u8 (Nat.cast (((prQ s (posn s k)).get! 0).toNat):Int)),Leaf.v (Value.int IntKind.u8 (Nat.cast (((prQ s (posn s k)).get! 1).toNat):Int)),Leaf.v (Value.int IntKind.u8 (Nat.cast (((prQ s (posn s k)).get! 2).toNat):Int)),Leaf.v (Value.int IntKind.u8 (Nat.cast (((prQ s (posn s k)).get! 3).toNat):Int))]) [] 0∧Le (ag [li (enE s k).X,li (enE s k).Y,Leaf.v (Value.int IntKind.u8 (Nat.cast (((prQ s (posn s k)).get! 0).toNat):Int)),Leaf.v (Value.int IntKind.u8 (Nat.cast (((prQ s (posn s k)).get! 1).toNat):Int)),Leaf.v (Value.int IntKind.u8 (Nat.cast (((prQ s (posn s k)).get! 2).toNat):Int)),Leaf.v (Value.int IntKind.u8 (Nat.cast (((prQ s (posn s k)).get! 3).toNat):Int)),li (prS s (posn s k)),Leaf.v (Value.string (ByteArray.mk #[]))]) (ag (en (enE s k)))∧(ens (ents s k)).length=k*8∧8=8∧[(2,k+1,false)]=[(2,k+1,false)]∧ApB Tryz.prog 3 (k+1)∧(szs s k).length=k*1∧1=1∧IntKind.i64.wrap ((Nat.cast k:Int)+1)=(Nat.cast k:Int)+1∧RoundTo Tryz.prog ((getLoop 6 (Tryz.f62.body.getD Code.skip)).getD Code.skip) 3 (wkK 3 K) (St.mk [(2,SV.c (Cp.l (Leaf.o 1 (k+1)))),(3,SV.c (Cp.l (Leaf.o 6 (k+1)))),(4,SV.u),(5,SV.c (Cp.l (Leaf.p 0 0))),(27,iv IntKind.i64 (Nat.cast ((nN s)):Int)),(28,iv IntKind.i64 ((Nat.cast k:Int)+1))] [(6,some (Blk.mk (szs s k++[li (prZ s (posn s k))]) (BT.r 3 1 6))),(5,some (Blk.mk [li (prZ s (posn s k))] (BT.r 3 1 5))),(1,some (Blk.mk (ens (ents s k)++splice [li 0,li 0,Leaf.v (Value.int IntKind.u8 0),Leaf.v (Value.int IntKind.u8 0),Leaf.v (Value.int IntKind.u8 0),Leaf.v (Value.int IntKind.u8 0),li 0,Leaf.v (Value.string (ByteArray.mk #[]))] 0 (en (enE s k))) (BT.r 123 8 1))),(4,some (Blk.mk (splice [li 0,li 0,Leaf.v (Value.int IntKind.u8 0),Leaf.v (Value.int IntKind.u8 0),Leaf.v (Value.int IntKind.u8 0),Leaf.v (Value.int IntKind.u8 0),li 0,Leaf.v (Value.string (ByteArray.mk #[]))] 0 (en (enE s k))) (BT.r 123 8 4))),(3,some (Blk.mk [li (enE s k).X,li (enE s k).Y] (BT.t 40))),(3,some (Blk.mk [li 0,li 0] (BT.t 40))),(0,some (Blk.mk [Leaf.v (Value.string s),li (Nat.cast ((pt5 s (posn s k)).fst):Int),lb (pt5 s (posn s k)).snd] (BT.t 174))),(0,some (Blk.mk [Leaf.v (Value.string s),li (Nat.cast ((pt4 s (posn s k)).fst):Int),lb (pt4 s (posn s k)).snd] (BT.t 174))),(0,some (Blk.mk [Leaf.v (Value.string s),li (Nat.cast ((pt3 s (posn s k)).fst):Int),lb (pt3 s (posn s k)).snd] (BT.t 174))),(0,some (Blk.mk [Leaf.v (Value.string s),li (Nat.cast ((pt2 s (posn s k)).fst):Int),lb (pt2 s (posn s k)).snd] (BT.t 174))),(0,some (Blk.mk [Leaf.v (Value.string s),li (Nat.cast ((pt1 s (posn s k)).fst):Int),lb (pt1 s (posn s k)).snd] (BT.t 174))),(0,some (Blk.mk [Leaf.v (Value.string s),li (Nat.cast ((posn s k)):Int),lb false] (BT.t 174))),(1,some (Blk.mk (ens (ents s k)) (BT.r 123 8 1))),(2,some (Blk.mk (szs s k) (BT.r 3 1 2)))] 7 96 [6,5,1,4,3,3,0,0,0,0,0,2,1,0] 0))∧Le (ag [li (enE s k).X,li (enE s k).Y]) (ag [li (enE s k).X,li (enE s k).Y])∧CallOKd Tryz.prog 127 [] [SV.c (Cp.l (Leaf.v (Value.string (prQ s (posn s k)))))] [] 4 (ag [Leaf.v (Value.int IntKind.u8 (Nat.cast (((prQ s (posn s k)).get! 0).toNat):Int)),Leaf.v (Value.int IntKind.u8 (Nat.cast (((prQ s (posn s k)).get! 1).toNat):Int)),Leaf.v (Value.int IntKind.u8 (Nat.cast (((prQ s (posn s k)).get! 2).toNat):Int)),Leaf.v (Value.int IntKind.u8 (Nat.cast (((prQ s (posn s k)).get! 3).toNat):Int))]) [] 0∧Le (ag [li (enE s k).X,li (enE s k).Y,Leaf.v (Value.int IntKind.u8 (Nat.cast (((prQ s (posn s k)).get! 0).toNat):Int)),Leaf.v (Value.int IntKind.u8 (Nat.cast (((prQ s (posn s k)).get! 1).toNat):Int)),Leaf.v (Value.int IntKind.u8 (Nat.cast (((prQ s (posn s k)).get! 2).toNat):Int)),Leaf.v (Value.int IntKind.u8 (Nat.cast (((prQ s (posn s k)).get! 3).toNat):Int)),li (prS s (posn s k)),Leaf.v (Value.string (ByteArray.mk #[]))]) (ag (en (enE s k)))∧[(1,k+1,false)]=[(1,k+1,false)]∧ApB Tryz.prog 123 (k+1)∧(ens (ents s k)).length=k*8∧8=8∧[(2,k+1,false)]=[(2,k+1,false)]∧ApB Tryz.prog 3 (k+1)∧(szs s k).length=k*1∧1=1∧IntKind.i64.wrap ((Nat.cast k:Int)+1)=(Nat.cast k:Int)+1∧RoundTo Tryz.prog ((getLoop 6 (Tryz.f62.body.getD Code.skip)).getD Code.skip) 3 (wkK 3 K) (St.mk [(2,SV.c (Cp.l (Leaf.o 5 (k+1)))),(3,SV.c (Cp.l (Leaf.o 7 (k+1)))),(4,SV.u),(5,SV.c (Cp.l (Leaf.p 0 0))),(27,iv IntKind.i64 (Nat.cast ((nN s)):Int)),(28,iv IntKind.i64 ((Nat.cast k:Int)+1))] [(7,some (Blk.mk (szs s k++[li (prZ s (posn s k))]) (BT.r 3 1 7))),(6,some (Blk.mk [li (prZ s (posn s k))] (BT.r 3 1 6))),(5,some (Blk.mk (ens (ents s k)++splice [li 0,li 0,Leaf.v (Value.int IntKind.u8 0),Leaf.v (Value.int IntKind.u8 0),Leaf.v (Value.int IntKind.u8 0),Leaf.v (Value.int IntKind.u8 0),li 0,Leaf.v (Value.string (ByteArray.mk #[]))] 0 (en (enE s k))) (BT.r 123 8 5))),(4,some (Blk.mk (splice [li 0,li 0,Leaf.v (Value.int IntKind.u8 0),Leaf.v (Value.int IntKind.u8 0),Leaf.v (Value.int IntKind.u8 0),Leaf.v (Value.int IntKind.u8 0),li 0,Leaf.v (Value.string (ByteArray.mk #[]))] 0 (en (enE s k))) (BT.r 123 8 4))),(3,some (Blk.mk [li (enE s k).X,li (enE s k).Y] (BT.t 40))),(3,some (Blk.mk [li 0,li 0] (BT.t 40))),(0,some (Blk.mk [Leaf.v (Value.string s),li (Nat.cast ((pt5 s (posn s k)).fst):Int),lb (pt5 s (posn s k)).snd] (BT.t 174))),(0,some (Blk.mk [Leaf.v (Value.string s),li (Nat.cast ((pt4 s (posn s k)).fst):Int),lb (pt4 s (posn s k)).snd] (BT.t 174))),(0,some (Blk.mk [Leaf.v (Value.string s),li (Nat.cast ((pt3 s (posn s k)).fst):Int),lb (pt3 s (posn s k)).snd] (BT.t 174))),(0,some (Blk.mk [Leaf.v (Value.string s),li (Nat.cast ((pt2 s (posn s k)).fst):Int),lb (pt2 s (posn s k)).snd] (BT.t 174))),(0,some (Blk.mk [Leaf.v (Value.string s),li (Nat.cast ((pt1 s (posn s k)).fst):Int),lb (pt1 s (posn s k)).snd] (BT.t 174))),(0,some (Blk.mk [Leaf.v (Value.string s),li (Nat.cast ((posn s k)):Int),lb false] (BT.t 174))),(1,some (Blk.mk (ens (ents s k)) (BT.r 123 8 1))),(2,some (Blk.mk (szs s k) (BT.r 3 1 2)))] 8 96 [7,6,5,4,3,3,0,0,0,0,0,2,1,0] 0)))) (wkK 3 K (Exit.exit 0) (St.mk [(2,SV.c (Cp.l (Leaf.o 1 k))),(3,SV.c (Cp.l (Leaf.o 2 k))),(4,SV.u),(5,SV.c (Cp.l (Leaf.p 0 0))),(27,iv IntKind.i64 (Nat.cast ((nN s)):Int)),(28,iv IntKind.i64 (Nat.cast k:Int))] [(0,some (Blk.mk [Leaf.v (Value.string s),li (Nat.cast ((posn s k)):Int),lb false] (BT.t 174))),(1,some (Blk.mk (ens (ents s k)) (BT.r 123 8 1))),(2,some (Blk.mk (szs s k) (BT.r 3 1 2)))] 3 96 [2,1,0] 0))):WPL Tryz.prog ((getLoop 6 (Tryz.f62.body.getD .skip)).getD .skip) (I62 s k) (wkK 3 K):=
 wp_roundE [2,3,4,5,27,28] (cx:=cz_R62p s k) rfl (of_eq (by kernel_rfl) h)
set_option maxRecDepth 100000 in
set_option maxHeartbeats 4000000 in
theorem L62p (s:ByteArray) (hs:s.size≤1000000000000000000) (hn:nN s≤1024):∀(m k:Nat),(nN s)-k=m→k≤(nN s)→(∀j,j<k→okE s j=true)→∀(K:Exit→St→Prop),((∀j,j<(nN s)→okE s j=true)→K (.exit 0) (I62 s (nN s)))→(∀j,j<(nN s)→okE s j=false→K .ret (Q62))→WPL Tryz.prog ((getLoop 6 (Tryz.f62.body.getD .skip)).getD .skip) (I62 s k) (wkK 3 K)
 |0,k,hm,hk,hall,K,hK,hR=>by
  have e:k=(nN s):=by omega
  subst e
  refine R62p s _ K (HB.mk (fun hne=>absurd (of_decide_eq_true hne) (by omega)) (fun he=>?_))
  exact wkK.to (I62 s _) (Nat.le_refl _) (by kernel_rfl) (wkE_cons (LeN.sl (by kernel_rfl) rfl) (wkE_cons (LeN.sl (by kernel_rfl) rfl) (wkE_cons (LeN.sl (by kernel_rfl) rfl) (wkE_cons (LeN.sl (by kernel_rfl) rfl) (wkE_cons (LeN.sl (by kernel_rfl) rfl) trivial))))) (wkH_cons (BkN.blk (k:=⟨[.v (.string s),.v (.int .i64 (posn s (nN s):Nat)),.v (.bool false)],.t 174⟩) (by kernel_rfl) (rfl) (by kernel_rfl)) (wkH_cons (BkN.plain (cs:=ens (ents s (nN s))) (b:=.r 123 8 1) (by kernel_rfl) (rfl) (plain_ens _) (by kernel_rfl)) (wkH_cons (BkN.plain (cs:=szs s (nN s)) (b:=.r 3 1 2) (by kernel_rfl) (rfl) (plain_szs _ _) (by kernel_rfl)) trivial))) (hK hall)
 |m+1,k,hm,hk,hall,K,hK,hR=>by
  refine R62p s k K (HB.mk (fun hne=>?_) (fun he=>absurd (show ((k:Nat):Int)<((nN s):Nat) by omega) (of_decide_eq_false he)))
  have hlt:k<(nN s):=by omega
  have hp0:=posn_le s k
  have hp1:=pt1_le hp0
  have hp2:=pt2_le hp0
  have hp3:=pt3_le hp0
  have hp4:=pt4_le hp0
  have hp5:=pt5_le hp0
  repeat' (first|exact trivial|with_reducible apply And.intro|(with_reducible apply HB.mk)|with_reducible intro _)
  all_goals first
   |(assumption)
   |(with_reducible exact Le.refl _)
   |(with_reducible rfl)
   |((with_reducible first|exact rd1 _ _ hs hp0 _ _|exact rd2 _ _ hs hp0 _ _|exact rd5 _ _ hs hp0 _ _))
   |((with_reducible exact rd6 _ _ _ _))
   |((with_reducible exact rd3 _ _ hs hp0 _ _))
   |((with_reducible exact rd4 _ _ hs hp0 _ _))
   |(with_reducible exact C126 _ _ _ _ _)
   |((with_reducible exact C127 _ (prQ_size (bad1_f (by with_reducible assumption)).1) _))
   |(exact ⟨by have:=gk ‹_›;omega,by omega⟩)
   |((have:=gk ‹_›;rw[ens_len,ents_len,kprev this];omega))
   |((refine Le.int ?_;rfl))
   |(exact Le.of rfl)
   |((have:=gk ‹_›;refine Le.of ?_;simp only[kprev this,Nat.zero_add,Nat.add_zero];rw[ens_pos (by rw[ents_len];omega),ents_at s (by omega)]))
   |((rw[ens_len,ents_len];omega))
   |((rw[szs_len];omega))
   |((with_reducible refine apB123 ?_;omega))
   |((with_reducible refine apB3 ?_;omega))
   |(exact ok8192 _ (prX_bd _ _))
   |(exact ok8192 _ (prY_bd _ _))
   |((have:=gk ‹_›;exact okw _ (by omega) (by omega)))
   |(have hcnd:bad1 s (posn s k)=false:=(by with_reducible assumption);(with_reducible refine RoundTo.toN 6 (I62 s (k+1)) ?_ ?_ ?_ ?_ ?_);exact Nat.le_refl _;kernel_rfl;exact (wkE_cons (LeN.sl (by kernel_rfl) rfl) (wkE_cons (LeN.sl (by kernel_rfl) rfl) (wkE_cons (LeN.sl (by kernel_rfl) rfl) (wkE_cons (LeN.sl (by kernel_rfl) rfl) (wkE_cons (LeN.sl (by kernel_rfl) rfl) trivial)))));exact (wkH_cons (BkN.blk (k:=⟨[.v (.string s),.v (.int .i64 ((pt5 s (posn s k)).1:Nat)),.v (.bool (pt5 s (posn s k)).2)],.t 174⟩) (by kernel_rfl) (by rw[(bad1_f hcnd).1];rfl) (by kernel_rfl)) (wkH_cons (BkN.plain (cs:=ens (ents s k)++en (enE s k)) (b:=.r 123 8 1) (by kernel_rfl) (ents_next s k) (plain_ens _) (by kernel_rfl)) (wkH_cons (BkN.plain (cs:=szs s k++[li (szE s k)]) (b:=.r 3 1 2) (by kernel_rfl) (szs_next s k) (plain_szs _ _) (by kernel_rfl)) trivial)));exact (L62p s hs hn m (k+1) (by omega) (by omega) (fun j hj=>by rcases Nat.lt_or_ge j k with h|h;exact hall j h;have e:j=k:=(by omega);subst e;exact okE_t hcnd (by with_reducible assumption)) K hK hR))
   |(have hcnd:bad1 s (posn s k)=false:=(by with_reducible assumption);(with_reducible refine RoundTo.reH 7 6 [(1,some 5)] (I62 s (k+1)) ?_ ?_ ?_ ?_);kernel_rfl;exact (wkER_cons (LeR.of (by kernel_rfl)) (wkER_cons (LeR.of (by kernel_rfl)) (wkER_cons (LeR.of (by kernel_rfl)) (wkER_cons (LeR.of (by kernel_rfl)) (wkER_cons (LeR.of (by kernel_rfl)) trivial)))));exact (wkHR_cons (j:=0) rfl (BkM.blk (k:=⟨[.v (.string s),.v (.int .i64 ((pt5 s (posn s k)).1:Nat)),.v (.bool (pt5 s (posn s k)).2)],.t 174⟩) (k'':=⟨[.v (.string s),.v (.int .i64 ((pt5 s (posn s k)).1:Nat)),.v (.bool (pt5 s (posn s k)).2)],.t 174⟩) (by kernel_rfl) (by kernel_rfl) (by rw[(bad1_f hcnd).1];rfl)) (wkHR_cons (j:=5) rfl (BkM.plain (cs:=ens (ents s k)++en (enE s k)) (b:=.r 123 8 5) (by kernel_rfl) (ents_next s k) (plain_ens _) (by kernel_rfl)) (wkHR_cons (j:=2) rfl (BkM.plain (cs:=szs s k++[li (szE s k)]) (b:=.r 3 1 2) (by kernel_rfl) (szs_next s k) (plain_szs _ _) (by kernel_rfl)) trivial)));exact (L62p s hs hn m (k+1) (by omega) (by omega) (fun j hj=>by rcases Nat.lt_or_ge j k with h|h;exact hall j h;have e:j=k:=(by omega);subst e;exact okE_t hcnd (by with_reducible assumption)) K hK hR))
   |(have hcnd:bad1 s (posn s k)=false:=(by with_reducible assumption);(with_reducible refine RoundTo.reH 7 5 [(2,some 6)] (I62 s (k+1)) ?_ ?_ ?_ ?_);kernel_rfl;exact (wkER_cons (LeR.of (by kernel_rfl)) (wkER_cons (LeR.of (by kernel_rfl)) (wkER_cons (LeR.of (by kernel_rfl)) (wkER_cons (LeR.of (by kernel_rfl)) (wkER_cons (LeR.of (by kernel_rfl)) trivial)))));exact (wkHR_cons (j:=0) rfl (BkM.blk (k:=⟨[.v (.string s),.v (.int .i64 ((pt5 s (posn s k)).1:Nat)),.v (.bool (pt5 s (posn s k)).2)],.t 174⟩) (k'':=⟨[.v (.string s),.v (.int .i64 ((pt5 s (posn s k)).1:Nat)),.v (.bool (pt5 s (posn s k)).2)],.t 174⟩) (by kernel_rfl) (by kernel_rfl) (by rw[(bad1_f hcnd).1];rfl)) (wkHR_cons (j:=1) rfl (BkM.plain (cs:=ens (ents s k)++en (enE s k)) (b:=.r 123 8 1) (by kernel_rfl) (ents_next s k) (plain_ens _) (by kernel_rfl)) (wkHR_cons (j:=6) rfl (BkM.plain (cs:=szs s k++[li (szE s k)]) (b:=.r 3 1 6) (by kernel_rfl) (szs_next s k) (plain_szs _ _) (by kernel_rfl)) trivial)));exact (L62p s hs hn m (k+1) (by omega) (by omega) (fun j hj=>by rcases Nat.lt_or_ge j k with h|h;exact hall j h;have e:j=k:=(by omega);subst e;exact okE_t hcnd (by with_reducible assumption)) K hK hR))
   |(have hcnd:bad1 s (posn s k)=false:=(by with_reducible assumption);(with_reducible refine RoundTo.reN 8 [(1,some 5),(2,some 7)] (I62 s (k+1)) ?_ ?_ ?_ ?_);kernel_rfl;exact (wkER_cons (LeR.of (by kernel_rfl)) (wkER_cons (LeR.of (by kernel_rfl)) (wkER_cons (LeR.of (by kernel_rfl)) (wkER_cons (LeR.of (by kernel_rfl)) (wkER_cons (LeR.of (by kernel_rfl)) trivial)))));exact (wkHR_cons (j:=0) rfl (BkM.blk (k:=⟨[.v (.string s),.v (.int .i64 ((pt5 s (posn s k)).1:Nat)),.v (.bool (pt5 s (posn s k)).2)],.t 174⟩) (k'':=⟨[.v (.string s),.v (.int .i64 ((pt5 s (posn s k)).1:Nat)),.v (.bool (pt5 s (posn s k)).2)],.t 174⟩) (by kernel_rfl) (by kernel_rfl) (by rw[(bad1_f hcnd).1];rfl)) (wkHR_cons (j:=5) rfl (BkM.plain (cs:=ens (ents s k)++en (enE s k)) (b:=.r 123 8 5) (by kernel_rfl) (ents_next s k) (plain_ens _) (by kernel_rfl)) (wkHR_cons (j:=7) rfl (BkM.plain (cs:=szs s k++[li (szE s k)]) (b:=.r 3 1 7) (by kernel_rfl) (szs_next s k) (plain_szs _ _) (by kernel_rfl)) trivial)));exact (L62p s hs hn m (k+1) (by omega) (by omega) (fun j hj=>by rcases Nat.lt_or_ge j k with h|h;exact hall j h;have e:j=k:=(by omega);subst e;exact okE_t hcnd (by with_reducible assumption)) K hK hR))
   |(exact wkK.to (Q62) (Nat.le_refl _) (by kernel_rfl) (wkE_cons (LeN.sl (by kernel_rfl) rfl) (wkE_cons (LeN.sl (by kernel_rfl) rfl) (wkE_cons (LeN.sl (by kernel_rfl) rfl) trivial))) trivial (hR k hlt ((by first|exact okE_1 (by with_reducible assumption)|exact okE_2 (by with_reducible assumption)))))
   |(exact okw _ (by omega) (by omega))
   |(exact Le.of rfl)
   |(simp only[*,Bool.and_self,Bool.not_false,Bool.not_true];done)
end Ab
end Go.Proofs.YtpdckpifhniioaaGreat
end
