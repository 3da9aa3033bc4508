/- CodecPacks: for every input the law returns true: the frame round the walk. No condition beyond the row's own. -/
import Derived.Test.YtpdckpifhniioaaGreatVa
import Derived.Test.YtpdckpifhniioaaGreatVb
import Derived.Test.YtpdckpifhniioaaGreatVc
import Derived.Test.YtpdckpifhniioaaGreatVd
import Derived.Test.YtpdckpifhniioaaGreatVe
import Derived.Test.YtpdckpifhniioaaGreatVf
import Derived.Test.YtpdckpifhniioaaGreatVg
import Derived.Test.YtpdckpifhniioaaGreatVh
import Derived.Test.YtpdckpifhniioaaGreatVi
import Derived.Test.YtpdckpifhniioaaGreatVj
import Derived.Test.YtpdckpifhniioaaGreatVk
import Derived.Test.YtpdckpifhniioaaGreatVl
import Derived.Test.YtpdckpifhniioaaGreatVm
import Derived.Test.YtpdckpifhniioaaGreatVn
import Derived.Test.YtpdckpifhniioaaGreatVo
import Derived.Test.YtpdckpifhniioaaGreatVp
import Derived.Test.YtpdckpifhniioaaGreatVq
import Derived.Test.YtpdckpifhniioaaGreatVr
import Derived.Test.YtpdckpifhniioaaGreatVs
import Derived.Test.YtpdckpifhniioaaGreatVt
import Derived.Test.YtpdckpifhniioaaGreatVu
import Derived.Test.YtpdckpifhniioaaGreatVv
import Derived.Test.YtpdckpifhniioaaGreatVw
import Derived.Test.YtpdckpifhniioaaGreatVx
import Derived.Test.YtpdckpifhniioaaGreatRows
import Derived.WalkKit
import Derived.ProofKit
import Derived.OpenShut
import Derived.ShutString
import Derived.ChangeOld
import Derived.Below
import Derived.SizedLaws
namespace Go.Proofs.YtpdckpifhniioaaGreat.codecPacks
open Go.ChangeShapes Go.WideShapes Go.ChangeAt Go.RowKit
open Go.ChangeMaps (open_string shut_string)
set_option linter.unusedVariables false

theorem own:ownKnob Tryz.prog.godebug=none:=by kernel_rfl
theorem laidOut:laidOutB Tryz.prog=true:=by kernel_rfl

set_option maxRecDepth 100000 in
theorem lifted (os:Os) (started:os.Started) (H:Type) (enc:TypeId×Value→H) :
  ReturnsInHanded {} Tryz.checked os 3 .any (Rows.codecPacksSpec.pre6 enc Tryz.prog Tryz.f3 Rows.codecPacksRow.domain false) (Rows.codecPacksSpec.post enc Tryz.prog Tryz.f3 false true false false):=by
 refine returnsInHanded_of_change_sized (C:=Tryz.checked) own started (by kernel_rfl) Tryz.func3
  (ChangeSpec.witness6 (enc:=enc) (C:=Tryz.checked) false ⟨#[],#[.slice none 0 0,.int .i64 0],[]⟩ 8 (by kernel_rfl) (by kernel_rfl) (by kernel_rfl) (by kernel_rfl)) ?_
 intro W base args ds gs before hval0 hW hcnd hsz0 _
 have hval:∀(j:Nat) t v,Tryz.f3.params[j]? = some t→args[j]? = some v→Value.okWide Tryz.prog W .any base t v:=hval0
 have hsz:(DataW.weightsEach Tryz.prog (Tryz.f3.params.toList++Rows.codecPacksSpec.plain.varTypes Tryz.prog) (ds++gs)).all (·≤reachBytes)=true:=hsz0
 clear hsz0
 have hW':=hW
 obtain ⟨p,q,hA0,hV,rfl,hfz,hnd⟩:=hW
 have hA:DataW.TrodAll enc Tryz.prog W 0 (fun _=>true) true Tryz.f3.params.toList args.toList ds p:=hA0
 rw[Tryz.params3] at hA hval hsz
 obtain ⟨v0,vs0,d0,ds0,p0,q0,hargs,rfl,rfl,h0,r0⟩:=trodAll_cons hA
 obtain ⟨v1,vs1,d1,ds1,p1,q1,rfl,rfl,rfl,h1,r1⟩:=trodAll_cons r0
 obtain ⟨rfl,rfl,rfl⟩:=trodAll_nil r1
 obtain rfl:args = #[v0,v1]:=by cases args;simp_all
 obtain ⟨rfl,rfl⟩:=trodVars_none hV
 have k0:=h0
 have lt0:∀x∈p0,x.block<W.heap.size:=by obtain ⟨m,hm⟩:=k0;exact DataW.trod_lt m _ _ _ hm
 obtain ⟨o0,n0,c0,z0,rfl,zl0,zc0,zw0,zh0,zd0⟩:=open_int_slice Tryz.underlying22 Tryz.underlying3 (by kernel_rfl) (hval 0 22 v0 rfl rfl) h0 lt0
 have zb0:n0*8≤140737488351232:=by have h:=reach_slice hsz (j:=0) (t:=22) rfl rfl Tryz.underlying22 zd0;rw[show Tryz.prog.bytesOf 3=8 by kernel_rfl] at h;exact h
 have k1:=h1
 have lt1:∀x∈p1,x.block<W.heap.size:=by obtain ⟨m,hm⟩:=k1;exact DataW.trod_lt m _ _ _ hm
 obtain ⟨a1,rfl,rfl,e1,w1⟩:=open_int Tryz.underlying3 (hval 1 3 v1 rfl rfl) h1
 clear hA0 hval0
 refine (walk o0 z0 n0 c0 a1 W zb0 zl0 zc0 zh0 zw0 w1).mono fun e W' ⟨he,bel⟩=>?_
 subst he
 exact ⟨_,rfl,_,_,_,[],_,[],hW',trodAll_mk1 (shut_bool Tryz.underlying4 _),(trodAll_cons_mk (Below.trod laidOut (by kernel_rfl) (of_decide_eq_true (by kernel_rfl)) k0 bel lt0) (trodAll_cons_mk (Below.trod laidOut (by kernel_rfl) (of_decide_eq_true (by kernel_rfl)) k1 bel lt1) trodAll_mk0)),rfl,bel.frame _,fun h=>by cases h⟩

theorem over:Rows.codecPacksRow.holds Tryz.pinned (OpenSpec.ofChange Rows.codecPacksSpec):=
 OpenClaim.holds_of_wide 3 Tryz.f3 rfl rfl rfl rfl rfl rfl rfl ⟨rfl,rfl,rfl,rfl,rfl⟩ rfl rfl rfl rfl rfl (by kernel_rfl) Tryz.func3 (by kernel_rfl)
  (of_decide_eq_true (by kernel_rfl)) (by unfold Func.isWrapper;first|(rw[if_pos (by decide +kernel)];kernel_rfl)|(rw[if_neg (by decide +kernel)];exact ⟨rfl,rfl⟩))
  (fun os started H enc _=>lifted os started H enc)

theorem proved:Rows.CodecPacksSaid:=over
#print axioms proved
end Go.Proofs.YtpdckpifhniioaaGreat.codecPacks
