/- TopAsks: part 46: the walk lifted to the row. -/
import Derived.Test.YtclgigmgbebhgaaGreatDoorA43
import Derived.Test.YtclgigmgbebhgaaGreatDoorA45
set_option linter.unusedVariables false
set_option linter.unusedSimpArgs false
set_option maxRecDepth 100000
set_option maxHeartbeats 16000000
namespace Go.Proofs.YtclgigmgbebhgaaGreatDoor.lawTopAsks
open Go.Proofs.Tryz
open Go Go.Proofs Go.ChangeShapes Go.WideShapes Go.ChangeAt Go.RowKit Go.Joins Go.ChangeMaps Go.Proofs.YtclgigmgbebhgaaGreatDoor
theorem own:ownKnob prog.godebug=none:=jK
theorem nG(os:Os):laidMet prog Rows.topAsksRow.laid ((World.laidAll prog os Rows.topAsksRow.laid).forCall (λ_ _=>0) ⟨#[],#[.slice none 0 0,.int .u8 0,.agg #[.int .u64 0,.int .u64 0,.int .u64 0,.int .u64 0,.int .u64 0,.int .u64 0]],[]⟩).memory:=
 laidMet_laidAll _ jK jK
theorem reads(os:Os){H:Type}(enc:TypeId×Value->H):∃places,DataW.whole enc prog ((World.laidAll prog os Rows.topAsksRow.laid).forCall (λ_ _=>0) ⟨#[],#[.slice none 0 0,.int .u8 0,.agg #[.int .u64 0,.int .u64 0,.int .u64 0,.int .u64 0,.int .u64 0,.int .u64 0]],[]⟩).memory Tryz.f3.params.toList Rows.topAsksSpec.vars false #[.slice none 0 0,.int .u8 0,.agg #[.int .u64 0,.int .u64 0,.int .u64 0,.int .u64 0,.int .u64 0,.int .u64 0]].toList 8=some ([.nil,.lit (.int .u8 0),.agg [.lit (.int .u64 0),.lit (.int .u64 0),.lit (.int .u64 0),.lit (.int .u64 0),.lit (.int .u64 0),.lit (.int .u64 0)]],[],places):=
 ⟨[],jK⟩
theorem lifted(os:Os)(started:os.Started)(H:Type)(enc:TypeId×Value->H)(F:Stop.Interp):
 ReturnsInHanded {} Tryz.checked os 3 .any ((OpenSpec.ofChange Rows.topAsksSpec).preRow enc prog Tryz.f3 Rows.topAsksRow.domain false Rows.topAsksRow.laid) (((OpenSpec.ofChange Rows.topAsksSpec).at F).post enc prog Tryz.f3 false true false false):=by
 obtain⟨places,hx⟩:=reads os enc
 refine nJ (C:=Tryz.checked) (tb:=4) own started jK func3
  (witness_row_at (enc:=enc) (C:=Tryz.checked) false (World.laidAll prog os Rows.topAsksRow.laid) #[.slice none 0 0,.int .u8 0,.agg #[.int .u64 0,.int .u64 0,.int .u64 0,.int .u64 0,.int .u64 0,.int .u64 0]] (World.laidAll_os _ _ _) jK jK jK
    (OpenSpec.preRow_of_cond 8 hx jK (λk hk=>by cases hk) jK (nG os)))
  rfl jK jK (ahf jK) ?_ rfl underlying4 ?_
 ·intro ds Y
  match ds,Y with
  |[d1,d2,d3],_=>rfl
 ·intro W base args ds p hval hA hlt hsz D T;rw[params3] at hA hval hsz;obtain⟨v0,vs0,d0,ds0,p0,q0,aB1,rfl,rfl,h0,r0⟩:=trodAll_cons hA;obtain⟨v1,vs1,d1,ds1,p1,q1,rfl,rfl,rfl,h1,r1⟩:=trodAll_cons r0;obtain⟨v2,vs2,d2,ds2,p2,q2,rfl,rfl,rfl,h2,r2⟩:=trodAll_cons r1;obtain⟨rfl,rfl,rfl⟩:=trodAll_nil r2;obtain rfl:args=#[v0,v1,v2]:=by cases args;simp_all
  obtain⟨ar,rfl,rfl,rfl,w1⟩:=open_int underlying5 (hval 1 5 v1 rfl rfl) h1;have hl2:=laidMet.filter (λx=>x.1 == "internal/strconv.uint64pow10") D;have hp:Zj.WV W:=Lib.tabIs_of_head (rest:=[]) (g:=3) jK jK underlying433 underlying23 jK jK hl2;obtain⟨cs,ua,uc,rfl,hci,Z⟩:=ZJ.CW (hval 0 22 _ rfl rfl) h0;have J:=bounds_u8 w1;obtain⟨a,rfl⟩:=Int.eq_ofNat_of_zero_le (show 0<=ar by have:=J.1;omega);have ha8:a<256:=by have:=J.2;omega
  obtain⟨zs,U,rfl,I⟩:=JX underlying24 underlying23 (by kernel_rfl:prog.cellsOf 23=1) (by kernel_rfl:prog.cellsOf 24=6) (hval 2 24 _ rfl rfl) h2;have A:∀z∈zs,∃n:Nat,z=(n:Int)/\n<YO:=λz hz=>by have hb:=bounds_u64 (I z hz);have h1:z<18446744073709551616:=Int.lt_of_le_of_lt hb.2 jD;exact⟨z.toNat,by have:=hb.1;omega,by unfold YO;have:=hb.1;omega⟩
  match zs,U,I,A with
  |[y0,y1,y2,y3,y4,y5],_,_,A=>
  obtain⟨x0,rfl,m0⟩:=A y0 jS;obtain⟨x1,rfl,m1⟩:=A y1 jS;obtain⟨x2,rfl,m2⟩:=A y2 jS;obtain⟨x3,rfl,m3⟩:=A y3 jS;obtain⟨x4,rfl,m4⟩:=A y4 jS;obtain⟨x5,rfl,m5⟩:=A y5 jS;exact am7 rfl W (aP _) hci Z ha8 m0 m1 m2 m3 m4 m5 hp
end Go.Proofs.YtclgigmgbebhgaaGreatDoor.lawTopAsks
