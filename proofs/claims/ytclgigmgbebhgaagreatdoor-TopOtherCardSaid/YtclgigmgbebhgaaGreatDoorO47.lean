/- TopOther: part 47: the walk lifted to the row. -/
import Derived.Test.YtclgigmgbebhgaaGreatDoorO44
import Derived.Test.YtclgigmgbebhgaaGreatDoorO46
set_option linter.unusedVariables false
set_option linter.unusedSimpArgs false
set_option maxRecDepth 100000
set_option maxHeartbeats 16000000
namespace Go.Proofs.YtclgigmgbebhgaaGreatDoor.lawTopOther
open Go.Proofs.Tryz
open Go Go.Proofs Go.ChangeShapes Go.WideShapes Go.ChangeAt Go.RowKit Go.Joins Go.ChangeMaps Go.Proofs.YtclgigmgbebhgaaGreatDoor
theorem own:ownKnob prog.godebug=none:=jK
theorem nC(os:Os):laidMet prog Rows.topOtherRow.laid ((World.laidAll prog os Rows.topOtherRow.laid).forCall (λ_ _=>0) ⟨#[],#[.agg #[.int .i64 0,.int .i64 0,.bool false,.slice none 0 0],.slice none 0 0,.agg #[.string ⟨#[]⟩,.int .i64 0,.int .i64 0,.slice none 0 0]],[]⟩).memory:=
 laidMet_laidAll _ jK jK
theorem reads(os:Os){H:Type}(enc:TypeId×Value->H):∃places,DataW.whole enc prog ((World.laidAll prog os Rows.topOtherRow.laid).forCall (λ_ _=>0) ⟨#[],#[.agg #[.int .i64 0,.int .i64 0,.bool false,.slice none 0 0],.slice none 0 0,.agg #[.string ⟨#[]⟩,.int .i64 0,.int .i64 0,.slice none 0 0]],[]⟩).memory Tryz.f4.params.toList Rows.topOtherSpec.vars false #[.agg #[.int .i64 0,.int .i64 0,.bool false,.slice none 0 0],.slice none 0 0,.agg #[.string ⟨#[]⟩,.int .i64 0,.int .i64 0,.slice none 0 0]].toList 8=some ([.agg [.agg [.lit (.int .i64 0),.lit (.int .i64 0)],.lit (.bool false),.nil],.nil,.agg [.lit (.string []),.agg [.lit (.int .i64 0),.lit (.int .i64 0)],.nil]],[],places):=
 ⟨[],jK⟩
theorem lifted(os:Os)(started:os.Started)(H:Type)(enc:TypeId×Value->H)(F:Stop.Interp):
 ReturnsInHanded {} Tryz.checked os 4 .any ((OpenSpec.ofChange Rows.topOtherSpec).preRow enc prog Tryz.f4 Rows.topOtherRow.domain false Rows.topOtherRow.laid) (((OpenSpec.ofChange Rows.topOtherSpec).at F).post enc prog Tryz.f4 false true false false):=by
 obtain⟨places,hx⟩:=reads os enc
 refine nD (C:=Tryz.checked) (tb:=4) own started jK func4
  (witness_row_at (enc:=enc) (C:=Tryz.checked) false (World.laidAll prog os Rows.topOtherRow.laid) #[.agg #[.int .i64 0,.int .i64 0,.bool false,.slice none 0 0],.slice none 0 0,.agg #[.string ⟨#[]⟩,.int .i64 0,.int .i64 0,.slice none 0 0]] (World.laidAll_os _ _ _) jK jK jK
    (OpenSpec.preRow_of_cond 8 hx jK (λk hk=>by cases hk) jK (nC os)))
  rfl jK jK (ala jK) ?_ rfl underlying4 ?_
 ·intro ds hds
  match ds,hds with
  |[d1,d2,d3],_=>rfl
 ·intro W base args ds p hval hA hlt hsz A U;rw[params4] at hA hval hsz;obtain⟨v0,vs0,d0,ds0,p0,q0,aF7,rfl,rfl,h0,r0⟩:=trodAll_cons hA;obtain⟨v1,vs1,d1,ds1,p1,q1,rfl,rfl,rfl,h1,r1⟩:=trodAll_cons r0;obtain⟨v2,vs2,d2,ds2,p2,q2,rfl,rfl,rfl,h2,r2⟩:=trodAll_cons r1;obtain⟨rfl,rfl,rfl⟩:=trodAll_nil r2;obtain rfl:args=#[v0,v1,v2]:=by cases args;simp_all
  have Z:=laidMet.filter (λx=>x.1 == "internal/strconv.uint64pow10") A;have hp:Zh.Xb W:=Lib.tabIs_of_head (rest:=[]) (g:=3) jK jK underlying433 underlying23 jK jK Z;obtain⟨⟨k,n,x,rs⟩,vr,rfl,I,J⟩:=Z0.nE (hval 0 37 _ rfl rfl) h0;dsimp only at I J h0;have D:=Z0.ub h0;obtain⟨pa,pc,rfl,_⟩:=id I;have T:∀cs,v1≠.agg cs:=by rintro cs rfl;exact Z4.I2 underlying61 (hval 1 61 _ rfl rfl)
  obtain⟨l,hl⟩:=Z4.tZ h1 T;obtain⟨sa,sc,rfl,_⟩:=id hl;obtain⟨nm,qk,qn,cs,ua,uc,rfl,Y,hcb⟩:=Z0.zx (hval 2 34 _ rfl rfl) h2;dsimp only at*;exact ae2 rfl rfl rfl W I (D _ _ _ rfl) Y J hcb hl hp
end Go.Proofs.YtclgigmgbebhgaaGreatDoor.lawTopOther
