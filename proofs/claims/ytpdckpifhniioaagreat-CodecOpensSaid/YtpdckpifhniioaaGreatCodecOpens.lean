/- CodecOpens: for every input the law returns true: the frame round the walk. No condition beyond the row's own. -/
import Derived.Test.YtpdckpifhniioaaGreatWj
import Derived.Test.YtpdckpifhniioaaGreatRows
import Derived.WalkKit
import Derived.ProofKit
import Derived.OpenShut
import Derived.ShutString
import Derived.ChangeOld
import Derived.Below
import Derived.SizedLaws
open Go.Proofs.Tryz
set_option maxRecDepth 100000
set_option maxHeartbeats 8000000
set_option linter.unusedVariables false
set_option linter.unusedSimpArgs false
namespace Go.Proofs.YtpdckpifhniioaaGreat.codecOpens
open Go.ChangeShapes Go.WideShapes Go.ChangeAt Go.RowKit
open Go.ChangeMaps (open_string shut_string)
theorem own:ownKnob prog.godebug=none:=by kernel_rfl
theorem laidOut:laidOutB prog=true:=by kernel_rfl
theorem lifted (os:Os) (started:os.Started) (H:Type) (enc:TypeId×Value->H) :
  ReturnsInHanded {} Tryz.checked os 9 .any (Rows.codecOpensSpec.pre6 enc prog Tryz.f9 Rows.codecOpensRow.domain false) (Rows.codecOpensSpec.post enc prog Tryz.f9 false true false false):=by
 refine returnsInHanded_of_change_sized (C:=Tryz.checked) own started (by kernel_rfl) func9
  (ChangeSpec.witness6 (enc:=enc) (C:=Tryz.checked) false ⟨#[],#[.slice none 0 0,.agg #[.int .i64 0,.int .i64 0,.int .i64 0,.int .i64 0],.string ByteArray.empty],[]⟩ 8 (by kernel_rfl) (by kernel_rfl) (by kernel_rfl) (by kernel_rfl)) ?_
 intro W base args ds gs before hval0 hW hcnd hsz0 _
 have hval:∀(j:Nat) t v,Tryz.f9.params[j]? = some t->args[j]? = some v->Value.okWide prog W .any base t v:=hval0
 have hsz:(DataW.weightsEach prog (Tryz.f9.params.toList++Rows.codecOpensSpec.plain.varTypes prog) (ds++gs)).all (·<=reachBytes)=true:=hsz0
 clear hsz0
 have hW':=hW
 obtain ⟨p,q,hA0,hV,rfl,hfz,hnd⟩:=hW
 have hA:DataW.TrodAll enc prog W 0 (fun _=>true) true Tryz.f9.params.toList args.toList ds p:=hA0
 rw[Tryz.params9] at hA hval hsz
 obtain ⟨v0,vs0,d0,ds0,p0,q0,hargs,rfl,rfl,h0,r0⟩:=trodAll_cons hA
 obtain ⟨v1,vs1,d1,ds1,p1,q1,rfl,rfl,rfl,h1,r1⟩:=trodAll_cons r0
 obtain ⟨v2,vs2,d2,ds2,p2,q2,rfl,rfl,rfl,h2,r2⟩:=trodAll_cons r1
 obtain ⟨rfl,rfl,rfl⟩:=trodAll_nil r2
 obtain rfl:args = #[v0,v1,v2]:=by cases args;simp_all
 obtain ⟨rfl,rfl⟩:=trodVars_none hV
 have k0:=h0
 have lt0:∀x∈p0,x.block<W.heap.size:=by obtain ⟨m,hm⟩:=k0;exact DataW.trod_lt m _ _ _ hm
 obtain ⟨o0,n0,c0,z0,rfl,zl0,zc0,zw0,zh0,zd0⟩:=oG underlying22 underlying3 (by kernel_rfl) (hval 0 22 v0 rfl rfl) h0 lt0
 have zb0:n0*8<=140737488351232:=by have h:=xE hsz (j:=0) (t:=22) rfl rfl underlying22 zd0;rw[show prog.bytesOf 3=8 by kernel_rfl] at h;exact h
 have k1:=h1
 have lt1:∀x∈p1,x.block<W.heap.size:=by obtain ⟨m,hm⟩:=k1;exact DataW.trod_lt m _ _ _ hm
 obtain ⟨cs1,rfl,f1⟩:=Hu (ks:=[.i64,.i64,.i64,.i64]) 12 (by kernel_rfl) (Ha underlying69 (hval 1 69 v1 rfl rfl)) h1
 obtain ⟨a1_0,t1,rfl,w1_0,f1⟩:=f1
 obtain ⟨a1_1,t1,rfl,w1_1,f1⟩:=f1
 obtain ⟨a1_2,t1,rfl,w1_2,f1⟩:=f1
 obtain ⟨a1_3,t1,rfl,w1_3,f1⟩:=f1
 obtain rfl:=f1
 have k2:=h2
 have lt2:∀x∈p2,x.block<W.heap.size:=by obtain ⟨m,hm⟩:=k2;exact DataW.trod_lt m _ _ _ hm
 obtain ⟨a2,rfl,rfl,e2,w2⟩:=open_string underlying9 (hval 2 9 v2 rfl rfl) h2
 have z2:a2.size<=140737488351232:=by have h:=sized_string hsz (j:=2) (t:=9) rfl rfl;rw[Array.length_toList] at h;exact h
 clear hA0 hval0
 refine (walk o0 z0 n0 c0 a1_0 a1_1 a1_2 a1_3 a2 W zb0 zl0 zc0 zh0 zw0 w1_0 w1_1 w1_2 w1_3 z2).mono fun e W' ⟨he,bel⟩=>?_
 subst he
 exact ⟨_,rfl,_,_,_,[],_,[],hW',trodAll_mk1 (shut_bool underlying4 _),(trodAll_cons_mk (Below.trod laidOut (by kernel_rfl) (of_decide_eq_true (by kernel_rfl)) k0 bel lt0) (trodAll_cons_mk (Below.trod laidOut (by kernel_rfl) (of_decide_eq_true (by kernel_rfl)) k1 bel lt1) (trodAll_cons_mk (Below.trod laidOut (by kernel_rfl) (of_decide_eq_true (by kernel_rfl)) k2 bel lt2) trodAll_mk0))),rfl,bel.frame _,fun h=>by cases h⟩
theorem over:Rows.codecOpensRow.holds Tryz.pinned (OpenSpec.ofChange Rows.codecOpensSpec):=
 OpenClaim.holds_of_wide 9 Tryz.f9 rfl rfl rfl rfl rfl rfl rfl ⟨rfl,rfl,rfl,rfl,rfl⟩ rfl rfl rfl rfl rfl (by kernel_rfl) func9 (by kernel_rfl)
  (of_decide_eq_true (by kernel_rfl)) (by unfold Func.isWrapper;first|(rw[if_pos (by decide +kernel)];kernel_rfl)|(rw[if_neg (by decide +kernel)];exact ⟨rfl,rfl⟩))
  (fun os started H enc _=>lifted os started H enc)
theorem proved:Rows.CodecOpensSaid:=over
#print axioms proved
end Go.Proofs.YtpdckpifhniioaaGreat.codecOpens
