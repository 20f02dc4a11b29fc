/- TopFirst: part 41: TopLw7. -/
import Derived.Test.YtclgigmgbebhgaaGreatDoorF38
set_option linter.unusedVariables false
set_option linter.unusedSimpArgs false
set_option maxRecDepth 100000
set_option maxHeartbeats 16000000
namespace Go.Proofs.YtclgigmgbebhgaaGreatDoor
open Tryz
open Go Go.Proofs Go.RowKit
variable {a:Act} {Q:Exit->Act->World->Prop} {c2 c3 c4 c5 c6 c7 c8:Value} {W w:World}
theorem nM{fn:Func}{t:Tmp}(h:fn.results=#[.cell t ND]){tmps:Array Value} {R T2:Nat}{c0 c1:Value}(hb:Z7 W R T2 #[c0,c1,c2,c3,c4,c5,c6,c7,c8])(ht:tmps.getD t undef=.pointer (some ⟨R,0,none⟩)):(results fn tmps).run prog W=.ok (.agg #[c0,c1,c2,c3,c4,c5,c6,c7,c8]) W:=by
 have e0:W.cell? ⟨R,0,none⟩=some c0:=hb.cell 0;have e1:W.cell? ⟨R,1,none⟩=some c1:=hb.cell 1;have e2:W.cell? ⟨R,2,none⟩=some c2:=hb.cell 2;have e3:W.cell? ⟨R,3,none⟩=some c3:=hb.cell 3;have e4:W.cell? ⟨R,4,none⟩=some c4:=hb.cell 4;have e5:W.cell? ⟨R,5,none⟩=some c5:=hb.cell 5;have C:W.cell? ⟨R,6,none⟩=some c6:=hb.cell 6;have I:W.cell? ⟨R,7,none⟩=some c7:=hb.cell 7;have D:W.cell? ⟨R,8,none⟩=some c8:=hb.cell 8;rw[ajb] at ht;simp[results,h,go_sem,ht,e0,e1,e2,e3,e4,e5,C,I,D]
theorem Qz {b t:Nat}{cs:Array Value}(h:Z7 W b t cs):Z7 W.drew b t cs:=h.below (aG _ W).drew h.lt
def IQ(w:World)(rb:Nat)(cs:Array Value)(W:World):Prop:=Z7 W (w.heap.size+1) ND #[.int .u32 0,.int .u32 0,.int .u64 0,.int .u64 0,.int .u64 0,.int .u64 0,.int .u64 0,.int .u64 0,.int .u64 0]/\Z7 W rb ND cs/\Below w.heap.size w W/\w.heap.size+1<rb
theorem iz(w:World)(D C:Obj)(cs:Array Value):IQ w (w.heap.size+1+1+1) cs ((((w.alloc D).alloc (.cells #[.int .u32 0,.int .u32 0,.int .u64 0,.int .u64 0,.int .u64 0,.int .u64 0,.int .u64 0,.int .u64 0,.int .u64 0] ND)).alloc C).alloc (.cells cs ND)).drew:=by
 refine⟨Qz (((Z7.OY w D ND _).alloc C).alloc _),Qz ?_,(((((aG w.heap.size w).alloc (aR _) D).alloc jS _).alloc (by simp;omega) C).alloc (by simp;omega) _).drew,jO⟩;have h:=Z7.new (((w.alloc D).alloc (.cells #[.int .u32 0,.int .u32 0,.int .u64 0,.int .u64 0,.int .u64 0,.int .u64 0,.int .u64 0,.int .u64 0,.int .u64 0] ND)).alloc C) ND cs;simp only[aj] at h;exact h
theorem iy(w:World)(D C:Obj)(cs:Array Value):IQ w (w.heap.size+1+1) cs ((((w.alloc D).alloc (.cells #[.int .u32 0,.int .u32 0,.int .u64 0,.int .u64 0,.int .u64 0,.int .u64 0,.int .u64 0,.int .u64 0,.int .u64 0] ND)).alloc (.cells cs ND)).alloc C).drew:=by
 refine⟨Qz (((Z7.OY w D ND _).alloc _).alloc C),Qz (Z7.alloc ?_ C),(((((aG w.heap.size w).alloc (aR _) D).alloc jS _).alloc (by simp;omega) _).alloc (by simp;omega) C).drew,jO⟩;have h:=Z7.new ((w.alloc D).alloc (.cells #[.int .u32 0,.int .u32 0,.int .u64 0,.int .u64 0,.int .u64 0,.int .u64 0,.int .u64 0,.int .u64 0,.int .u64 0] ND)) ND cs;simp only[aj] at h;exact h
theorem xQ{K:Act->World->Prop} {x:Exit}{rb:Nat}{cs:Array Value}(h:IQ w rb cs W)(hk:∀W',IQ w rb cs W'->Exit.then K Q x a W'):Exit.then K Q x a W:=hk W h
theorem xP{P:Program}{C:Code} {rb:Nat}{cs:Array Value}(h:IQ w rb cs W)(hk:∀W',IQ w rb cs W'->Code.wp P C Q a W'):Code.wp P C Q a W:=hk W h
theorem IQ.aD9 {rb:Nat}{c0 c1:Value}(h:IQ w rb #[c0,c1,c2,c3,c4,c5,c6,c7,c8] W)(d:Value):IQ w rb #[d,c1,c2,c3,c4,c5,c6,c7,c8] (W.setCell ⟨rb,0,none⟩ d):=
 ⟨h.1.other (by have:=h.2.2.2;omega) 0 d,h.2.1.set 0 d,h.2.2.1.setCell (p:=⟨rb,0,none⟩) (aO (azg _) (acf h.2.2.2)) d,h.2.2.2⟩
theorem nL(a own a0 a1 a2 a3 a4 a5:Nat)(ha:a<5)(ho:own<1073741824)(w:World):
 Calls prog 14 #[.int .i64 a,.int .u32 own,.agg #[.int .u64 a0,.int .u64 a1,.int .u64 a2,.int .u64 a3,.int .u64 a4,.int .u64 a5]] w λe w'=>e=.returned (.agg #[.int .u32 (whole a own:Int),.int .u32 (Zb a:Int),.int .u64 0,.int .u64 a0,.int .u64 a1,.int .u64 a2,.int .u64 a3,.int .u64 a4,.int .u64 a5])/\Below w.heap.size w w':=by
 have aL3:bits .or .u32 (own:Int) 1073741824=(own:Int)+1073741824:=yG _ jO jO;obtain⟨I,T⟩:∃I:Int,(a:Int)=I:=⟨_,rfl⟩;obtain⟨nv,D⟩:∃nv:Int,((whole a own:Nat):Int)=nv:=⟨_,rfl⟩;obtain⟨tv,J⟩:∃tv:Int,((Zb a:Nat):Int)=tv:=⟨_,rfl⟩;rw[T,D,J];have C:(I=0/\tv=3221225534/\nv=own)\/(I=1/\tv=3221225534/\nv=(own:Int)+1073741824)\/(I=2/\tv=1073741827/\nv=own)\/(I=3/\tv=3221225655/\nv=own)\/(I=4/\tv=3221225715/\nv=own):=by
  subst T D J;rcases (show a=0\/a=1\/a=2\/a=3\/a=4 from jO) with rfl|rfl|rfl|rfl|rfl;·exact .inl ⟨rfl,rfl,rfl⟩
  ·exact .inr (.inl ⟨rfl,rfl,rfl⟩)
  ·exact .inr (.inr (.inl ⟨rfl,rfl,rfl⟩))
  ·exact .inr (.inr (.inr (.inl ⟨rfl,rfl,rfl⟩)))
  ·exact .inr (.inr (.inr (.inr ⟨rfl,rfl,rfl⟩)))
 clear T D J ha;rcases C with⟨rfl,rfl,rfl⟩|⟨rfl,rfl,rfl⟩|⟨rfl,rfl,rfl⟩|⟨rfl,rfl,rfl⟩|⟨rfl,rfl,rfl⟩
 all_goals (
  go_enter func14,ntmps14;go_upto_region 1 with fail;go_region
  all_goals (
   first
    |with_reducible refine xQ (iz w _ _ _) ?_
    |with_reducible refine xQ (iy w _ _ _) ?_
   intro w4 h4;have H4:=aT h4;obtain⟨hz,hr,hb,hl⟩:=h4;have r0:=hr.cell 0;have r1:=hr.cell 1;have r2:=hr.cell 2;have r3:=hr.cell 3;have r4:=hr.cell 4;have r5:=hr.cell 5;have r6:=hr.cell 6;have r7:=hr.cell 7;have r8:=hr.cell 8;have g0:=hr.frozen 0;have f0:=hz.frozen 0;have f1:=hz.frozen 1;have f2:=hz.frozen 2;have f3:=hz.frozen 3;have f4:=hz.frozen 4;have f5:=hz.frozen 5;have f6:=hz.frozen 6;have f7:=hz.frozen 7;have f8:=hz.frozen 8;have z0:=hz.cell 0;have z1:=hz.cell 1;have U:=hz.cell 2;have Y:=hz.cell 3;have z4:=hz.cell 4;have z5:=hz.cell 5;have z6:=hz.cell 6;have z7:=hz.cell 7;have Z:=hz.cell 8;simp only[au,aM,aH] at r0 r1 r2 r3 r4 r5 r6 r7 r8 z0 z1 U Y z4 z5 z6 z7 Z;clear hz hr hb hl;go_upto_region 4 with fail
   first
    |with_reducible refine xP H4.out ?_
    |with_reducible refine xP (IQ.aD9 H4.out _) ?_
   clear r0 r1 r2 r3 r4 r5 r6 r7 r8 z0 z1 U Y z4 z5 z6 z7 Z g0 f0 f1 f2 f3 f4 f5 f6 f7 f8 H4;intro w5 h5;have H5:=aT h5;obtain⟨hz,hr,hb,hl⟩:=h5;have r0:=hr.cell 0;have r1:=hr.cell 1;have r2:=hr.cell 2;have r3:=hr.cell 3;have r4:=hr.cell 4;have r5:=hr.cell 5;have r6:=hr.cell 6;have r7:=hr.cell 7;have r8:=hr.cell 8;have f0:=hz.frozen 0;have f1:=hz.frozen 1;have f2:=hz.frozen 2;have f3:=hz.frozen 3;have f4:=hz.frozen 4;have f5:=hz.frozen 5;have f6:=hz.frozen 6;have f7:=hz.frozen 7;have f8:=hz.frozen 8;have z0:=hz.cell 0;have z1:=hz.cell 1;have U:=hz.cell 2;have Y:=hz.cell 3;have z4:=hz.cell 4;have z5:=hz.cell 5;have z6:=hz.cell 6;have z7:=hz.cell 7;have Z:=hz.cell 8;simp only[au,aM,aH] at r0 r1 r2 r3 r4 r5 r6 r7 r8 z0 z1 U Y z4 z5 z6 z7 Z;clear hz hr hb hl;go_wp2_with fail;refine aaf (nM rfl (Tz H5.out.1 _ _ _ _ _ _ _ _ _) rfl) rfl ?_;exact⟨rfl,Ty H5.out.2.2.1 (azg _) _ _ _ _ _ _ _ _ _⟩))
end Go.Proofs.YtclgigmgbebhgaaGreatDoor
