/- TopAsks: part 38: TopLw6 TopLwP CondFu CondText TopVal1 TopVal2 SysSeen. -/
import Derived.Lib.AppendIntMem
import Derived.ArgAppend
import Derived.Test.YtclgigmgbebhgaaGreatDoorA37
set_option linter.unusedVariables false
set_option linter.unusedSimpArgs false
set_option maxRecDepth 100000
set_option maxHeartbeats 16000000
namespace Go.Proofs.YtclgigmgbebhgaaGreatDoor
open Tryz
open Go Go.Proofs Go.RowKit
abbrev F9:Nat:=58
structure NW(s:Nat)(w:World)(cs:Array Value)(v:Value)(bs:List Nat)(m:Nat)(W:World):Prop where
 box:Z8 W s F9 cs
 row:W.ownsRow (s+1) TB 1 v m (Zn bs)
 Zs:Below s w W
section
variable {s m:Nat} {w W W':World} {cs:Array Value} {v:Value} {bs:List Nat}
theorem NW.to(h:NW s w cs v bs m W)(hb:Below W.heap.size W W'):NW s w cs v bs m W':=
 ⟨h.box.below hb h.box.lt,ZF h.row hb,h.Zs.trans (hb.mono (acd h.box.lt))⟩
theorem NW.more{v':Value}{m':Nat}{ns:List Nat}(h:NW s w cs v bs m W)(A:W.grownBy W' v.ownBlock)(hr:W'.ownsRow (s+1) TB 1 v' m' (Zn bs++Zn ns)):NW s w cs v' (bs++ns) m' W':=
 ⟨h.box.kept A (λe=>YZ h.row h.box jD e.symm),(by rw[J4];exact hr),h.Zs.grown A (acd h.box.lt) (λk e=>by have:=(h.row.lt k e).1;omega)⟩
end
def Vd(al:List Nat):List Nat:=al.flatMap (leB 8)
theorem Av{al:List Nat}{i x:Nat}(h:al[i]? =some x):Vd (al.take (i+1))=Vd (al.take i)++leB 8 x:=by
 unfold Vd;rw[afb,h,aca];simp
def Xv(num ay9 ptr:Nat)(al:List Nat):List Nat:=leB 4 num++leB 4 ay9++leB 8 ptr++Vd al
theorem OZ(bs:List Nat):(Zn bs).length=bs.length:=by unfold Zn;rw[aac]
theorem Au(num A ptr a0 a1 a2 a3 a4 C:Nat)(hn:num<4294967296)(ha:A<4294967296)(hp:ptr<YO)(h0:a0<YO)(h1:a1<YO)(h2:a2<YO)(h3:a3<YO)(h4:a4<YO)(h5:C<YO)(w:World):
 Calls prog 13 #[.agg #[.int .u32 num,.int .u32 A,.int .u64 ptr,.int .u64 a0,.int .u64 a1,.int .u64 a2,.int .u64 a3,.int .u64 a4,.int .u64 C],.bool false] w λe w'=>∃v,e=.returned v/\w'.ownsRow w.heap.size TB 1 v 64 (Zn (Xv num A ptr [a0,a1,a2,a3,a4,C]))/\Below w.heap.size w w':=by
 obtain⟨i0,hi,hz0,hz1,hz2⟩:=ZQ yH;have LN:=aT (λW=>QU num 4 (by unfold YO;omega) jD W);have QM:=aT (λW=>QU A 4 (by unfold YO;omega) jD W);have GP:=aT (λW=>QU ptr 8 hp jD W);have HAs:Hid (∀a∈[a0,a1,a2,a3,a4,C],∀W,Calls prog 31 #[.int .u64 a,.int .i64 ((8:Nat):Int),.bool false] W λe w'=>∃g c,e=.returned (.slice (some ⟨g,0,none⟩) 8 c)/\w'.ownsRow W.heap.size TB 1 (.slice (some ⟨g,0,none⟩) 8 c) 8 (Zn (leB 8 a))/\Below W.heap.size W w'):=λa hm W=>QU a 8 (by simp only[abf,akf,auf] at hm;rcases hm with rfl|rfl|rfl|rfl|rfl|rfl<;>assumption) jD W
 have wn:IntKind.u64.wrap (num:Int)=(num:Int):=by rw[IntKind.wrap_u64];omega
 have wa:IntKind.u64.wrap (A:Int)=(A:Int):=by rw[IntKind.wrap_u64];omega
 obtain⟨cs,hcs⟩:∃cs:Array Value,#[.int .u32 num,.int .u32 A,.int .u64 ptr,.int .u64 a0,.int .u64 a1,.int .u64 a2,.int .u64 a3,.int .u64 a4,.int .u64 C]=cs:=⟨_,rfl⟩;have HX:Hid (Z8 (w.alloc (.cells #[.int .u32 num,.int .u32 A,.int .u64 ptr,.int .u64 a0,.int .u64 a1,.int .u64 a2,.int .u64 a3,.int .u64 a4,.int .u64 C] F9)) w.heap.size F9 cs):=by rw[<-hcs];exact Z8.new w _ _
 have HC:Hid (∀W,Z8 W w.heap.size F9 cs->W.cell? ⟨w.heap.size,0,none⟩=some (.int .u32 num)/\W.cell? ⟨w.heap.size,1,none⟩=some (.int .u32 A)/\W.cell? ⟨w.heap.size,2,none⟩=some (.int .u64 ptr)/\∀i,i<6->∃a:Nat,[a0,a1,a2,a3,a4,C][i]? =some a/\W.cell? ⟨w.heap.size,3+i,none⟩=some (.int .u64 a)):=λW Y=>by
  subst hcs;refine⟨Y.cell 0,Y.cell 1,Y.cell 2,λi hi=> ?_⟩;rcases (show i=0\/i=1\/i=2\/i=3\/i=4\/i=5 from jO) with rfl|rfl|rfl|rfl|rfl|rfl;·exact⟨a0,rfl,Y.cell 3⟩
  ·exact⟨a1,rfl,Y.cell 4⟩
  ·exact⟨a2,rfl,Y.cell 5⟩
  ·exact⟨a3,rfl,Y.cell 6⟩
  ·exact⟨a4,rfl,Y.cell 7⟩
  ·exact⟨C,rfl,Y.cell 8⟩
 have HB:=aT ((aG w.heap.size w).alloc (aP _) (.cells #[.int .u32 num,.int .u32 A,.int .u64 ptr,.int .u64 a0,.int .u64 a1,.int .u64 a2,.int .u64 a3,.int .u64 a4,.int .u64 C] F9));clear hcs hn ha hp h0 h1 h2 h3 h4 h5;go_enter func13,ntmps13;go_upto_region 1 with fail;generalize w.alloc (.cells #[.int .u32 num,.int .u32 A,.int .u64 ptr,.int .u64 a0,.int .u64 a1,.int .u64 a2,.int .u64 a3,.int .u64 a4,.int .u64 C] F9)=w1 at*;obtain⟨s,hs⟩:=jX w.heap.size;have HSs:=aT hs;rw[hs] at HX HC HB ⊢;clear hs;have yR:s<w1.heap.size:=HX.lt;have HD:Hid (∀W,Below w1.heap.size w1 W->W.cell? ⟨s,0,none⟩=some (.int .u32 num)/\W.cell? ⟨s,1,none⟩=some (.int .u32 A)):=λW Y=>by have h:=HC W (HX.below Y yR);exact⟨h.1,h.2.1⟩
 have kd:Below w1.heap.size w1 w1.drew:=(aG _ w1).drew
 go_region_held_law (λw'=>w'.cell? ⟨s,0,none⟩=some (.int .u32 num)/\w'.cell? ⟨s,1,none⟩=some (.int .u32 A)) (first|exact HD _ (by first|(with_reducible assumption)|(with_reducible exact kd))|exact⟨(HC _ T.box).1,(HC _ T.box).2.1⟩) (first
  |(have hh:=K0;clear hh;go_at_call 31;refine(QM _).mono ?_;rintro e w3 ⟨g3,c3,rfl,r3,hb3⟩;have k3:Below w1.heap.size w1 w3:=k2.trans (hb3.mono k2.size);have JT:=aT r3;have I:=aT (ZF K0 hb3);have hs3:s+1<=w3.heap.size:=(by have:=k3.size;omega);clear r3)
  |(go_at_call 31;go_loud (refine(LN _).mono ?_;rintro e w2 ⟨g2,c2,rfl,r2,hb2⟩;have k2:Below w1.heap.size w1 w2:=kd.trans hb2;have K0:=aT (Ze r2 (show s+1<=w1.heap.size from jO));have hs2:s+1<=w2.heap.size:=(by have:=k2.size;omega);clear r2))
  |(refine step_append_lies _ rfl _ _ 42 rfl (s+1) TB i0 (.int .u8 0) 1 1 underlying42 hi hz0 hz1 hz2 rfl jD (.slice (some ⟨g2,0,none⟩) 4 c2) 4 (Zn (leB 4 num)) rfl I ⟨g3,0,none⟩ 4 c3 (Zn (leB 4 A)) rfl (by rw[OZ,Yw]) (JT.cells rfl) (Na _) jD (by unfold maxLen;omega) jO hs3 _ rfl ?_;intro gb cap w4 D hg4 az2 ak7;have T:Hid (NW s w cs (.slice (some ⟨gb,0,none⟩) (4+4) cap) (leB 4 num++leB 4 A) (4+4) w4):=NW.more ⟨HX.below k3 yR,I,HB.trans (k3.mono (acd yR))⟩ hg4 D;clear D hg4 az2))
 all_goals (
  clear HD LN QM K0 JT I HX HB;obtain⟨_,_,z2,_⟩:=HC _ T.box
  go_wp2_with (first
   |(go_at_call 31;refine(GP _).mono ?_;rintro e w5 ⟨g5,c5,rfl,r5,yD⟩;have uh:=aT r5;have Z:=aT (T.to yD);have hs5:s+1<=w5.heap.size:=Z.box.lt;clear r5 yD T)
   |(at_builtin;refine aea _ rfl _ _ 42 rfl (s+1) TB i0 (.int .u8 0) 1 1 underlying42 hi hz0 hz1 hz2 rfl jD _ (4+4) _ rfl Z.row ⟨g5,0,none⟩ 8 c5 (Zn (leB 8 ptr)) rfl ?c1 ?c2 ?c3 ?c4 ?c5 ?c6 ?_;(case c1=>rw[OZ,Yw]);(case c2=>exact uh.cells rfl);(case c3=>exact Na _);(case c4=>unfold maxLen;omega);(case c5=>omega);(case c6=>exact hs5);intro v6 w6 J kK _;have oZ:Hid (NW s w cs v6 (leB 4 num++leB 4 A++leB 8 ptr) 16 w6):=NW.more Z kK J;clear J kK Z uh)))
 clear wn wa;have hH:=hs5;clear hs5 hs2 hs3 k2 k3 hb2 hb3 kd z2
 all_goals (
  go_upto_region 4 with fail;go_loopg [5,6] 7 (λgg v iv wr=>∃i:Nat,i<=6/\6-i<gg/\iv=.int .i64 (i:Int)/\Hid (NW s w cs v (leB 4 num++leB 4 A++leB 8 ptr++Vd ([a0,a1,a2,a3,a4,C].take i)) (16+8*i) wr));case atStart=>exact⟨0,jD,jD,rfl,(by show NW _ _ _ _ _ _ _;simpa [Vd] using oZ.out)⟩
  case round=>
   obtain⟨i,hi6,VM,rfl,HR⟩:=hrel;clear oZ;have Cq:=jZ i;by_cases hlt:i<6
   ·have Zc:(i:Int)<6:=by omega
    have JS:=jW i;obtain⟨a,ha,za⟩:=(HC _ HR.box).2.2.2 i hlt;have HAa:=aT (HAs a (ag ha));have HN:=aT (Av ha);clear ha
    go_wp2_with (first
     |(go_at_call 31;refine(HAa _).mono ?_;rintro e w7 ⟨g7,c7,rfl,r7,Uw⟩;have HR7:=aT r7;have gY:=aT (HR.to Uw);have jd:s+1<=w7.heap.size:=gY.box.lt;clear r7 Uw HR za)
     |(at_builtin;refine aea _ rfl _ _ 42 rfl (s+1) TB i0 (.int .u8 0) 1 1 underlying42 hi hz0 hz1 hz2 rfl jD _ (16+8*i) _ rfl gY.row ⟨g7,0,none⟩ 8 c7 (Zn (leB 8 a)) rfl ?c1 ?c2 ?c3 ?c4 ?c5 ?c6 ?_;(case c1=>rw[OZ,Yw]);(case c2=>exact HR7.cells rfl);(case c3=>exact Na _);(case c4=>unfold maxLen;omega);(case c5=>omega);(case c6=>exact jd);intro v8 w8 U LY _;have gj:Hid (NW s w cs v8 (leB 4 num++leB 4 A++leB 8 ptr++Vd ([a0,a1,a2,a3,a4,C].take (i+1))) (16+8*(i+1)) w8):=(by rw[HN.out,<-aba];exact NW.more gY LY U);clear U LY gY HR7))
    go_roundg (6-i);case measure=>omega
    case rel=>exact⟨i+1,jO,jO,by go_num,gj⟩
   ·obtain rfl:i=6:=by omega
    have Zc:¬((6:Nat):Int)<6:=jD;have hrow:=HR.row;have HRo:Hid (World.ownsRow wr s TB 1 _ 64 (Zn (Xv num A ptr [a0,a1,a2,a3,a4,C]))):=Ze hrow (show s<=s+1 from jO);go_wp2_with fail;go_ret;refine⟨_,rfl,?_,?_⟩<;>rw[HSs.out]
    ·exact HRo
    ·exact HR.Zs)
theorem jb(n:Nat):leB 4 n=[n%256,n/256%256,n/256/256%256,n/256/256/256%256]:=rfl
theorem yj(n:Nat):leB 8 n=[n%256,n/256%256,n/256/256%256,n/256/256/256%256,n/256/256/256/256%256,n/256/256/256/256/256%256,n/256/256/256/256/256/256%256,n/256/256/256/256/256/256/256%256]:=rfl
theorem TN{a b:List Nat}{k:Nat}(h:a.length<=k):YS (a++b) k=YS b (k-a.length):=by
 unfold YS;simp only[aef];rw[aae h,aae jO,aae jO,aae jO];rw[show k+1-a.length=k-a.length+1 from jO,show k+2-a.length=k-a.length+2 from jO,show k+3-a.length=k-a.length+3 from jO]
theorem SH{a b:List Nat}{k:Nat}(h:k+3<a.length):YS (a++b) k=YS a k:=by
 unfold YS;simp only[aef];rw[abc jO,abc jO,abc jO,abc h]
theorem H9{n:Nat}(h:n<4294967296):YS (leB 4 n) 0=n:=by
 rw[jb];show n%256+256*(n/256%256)+65536*(n/256/256%256)+16777216*(n/256/256/256%256)=n;omega
theorem oY(n:Nat):YS (leB 8 n) 0=n%4294967296:=by
 rw[yj];show n%256+256*(n/256%256)+65536*(n/256/256%256)+16777216*(n/256/256/256%256)=n%4294967296;omega
theorem oX{n:Nat}(h:n<YO):YS (leB 8 n) 4=n/4294967296:=by
 unfold YO at h;rw[yj];show n/256/256/256/256%256+256*(n/256/256/256/256/256%256)+65536*(n/256/256/256/256/256/256%256)+16777216*(n/256/256/256/256/256/256/256%256)=n/4294967296;omega
theorem Hz:∀l:List Nat,(Vd l).length=l.length*8
 |[]=>rfl
 |x::l=>by have A:=Hz l;unfold Vd at*;rw[acb,ay,Yw,A,aj];omega
theorem J3:∀(l:List Nat) (i x:Nat),l[i]? =some x->x<YO->YS (Vd l) (8*i)=x%4294967296/\YS (Vd l) (8*i+4)=x/4294967296
 |[],i,x,h,_=>by simp at h
 |y::l,0,x,h,hx=>by simp only[aL,aka] at h;subst h;rw[show Vd (y::l)=leB 8 y++Vd l from rfl,SH (by rw[Yw];omega),SH (by rw[Yw];omega)];exact⟨oY y,oX hx⟩
 |y::l,i+1,x,h,hx=>by rw[aF] at h;have A:=J3 l i x h hx;rw[show Vd (y::l)=leB 8 y++Vd l from rfl,TN (by rw[Yw];omega),TN (by rw[Yw];omega),Yw,show 8*(i+1)-8=8*i from jO,show 8*(i+1)+4-8=8*i+4 from jO];exact A
theorem Hw(n a p:Nat)(l:List Nat):(Xv n a p l).length=16+l.length*8:=by
 unfold Xv;rw[ay,ay,ay,Yw,Yw,Yw,Hz]
theorem Dd(n a p:Nat)(l:List Nat):∀b∈Xv n a p l,b<256:=by
 intro b hb;unfold Xv at hb;rcases abe.1 hb with hb|hb
 ·rcases abe.1 hb with hb|hb
  ·rcases abe.1 hb with hb|hb;·exact J5 _ _ b hb
   ·exact J5 _ _ b hb
  ·exact J5 _ _ b hb
 ·obtain⟨y,_,hy⟩:=aqe.1 hb;exact J5 _ _ b hy
theorem uP{n:Nat}(a p:Nat)(l:List Nat)(h:n<4294967296):YS (Xv n a p l) 0=n:=by
 unfold Xv;rw[aba,aba,SH (by rw[Yw];omega)];exact H9 h
theorem Ar(n:Nat){a:Nat}(p:Nat)(l:List Nat)(h:a<4294967296):YS (Xv n a p l) 4=a:=by
 unfold Xv;rw[aba,aba,TN (by rw[Yw];omega),Yw,SH (by rw[Yw];omega)];exact H9 h
theorem uO(n a p:Nat){l:List Nat}{i x:Nat}(h:l[i]? =some x)(hx:x<YO):YS (Xv n a p l) (YA i)=x%4294967296/\YS (Xv n a p l) (Zd i)=x/4294967296:=by
 have hs:=J3 l i x h hx;have hl:(leB 4 n++leB 4 a++leB 8 p).length=16:=by rw[ay,ay,Yw,Yw,Yw]
 unfold Xv YA Zd;rw[TN (by rw[hl];omega),TN (by rw[hl];omega),hl,show 16+8*i-16=8*i from jO,show 16+8*i+4-16=8*i+4 from jO];exact hs
def seen(k x:Nat):Nat:=if k=2 then x%4294967296 else x
theorem Aq(n a p k:Nat){l:List Nat}{i x:Nat}(h:l[i]? =some x)(hx:x<YO):VX (YS (Xv n a p l)) (decide (k≠2)) i=seen k x:=by
 obtain⟨C,A⟩:=uO n a p h hx;unfold VX seen;rw[C,A];by_cases hk:k=2;·simp[hk]
 ·simp only[hk,ne_eq,not_false_eq_true,decide_true,if_true,if_false];omega
theorem uN(n a p:Nat)(l:List Nat):He (YS (Xv n a p l)):=Ko (Dd n a p l)
end Go.Proofs.YtclgigmgbebhgaaGreatDoor
namespace Go.Proofs.YtclgigmgbebhgaaGreatDoor.Zj
open Tryz
open Go Go.Proofs Go.RowKit Go.Sort Go.Shelf
def WV(W:World):Prop:=Lib.TabIs prog W "internal/strconv.uint64pow10" .u64 Lib.pow10Tab
theorem WV.below{W W':World}(h:WV W)(hb:Below W.heap.size W W'):WV W':=by
 cases A:prog.globalNamed "internal/strconv.uint64pow10" with
 |none=>unfold WV Lib.TabIs World.var? at h;rw[A] at h;cases h
 |some g=>exact Go.Joins.tab_stays A h hb (aP _)
theorem ja(u:Nat)(hu:100<=u)(A:u<18446744073709551616)(w:World)(D:WV w):
 Calls prog 333 #[.int .u64 u,.int .i64 10] w λe w'=>e=.returned (.string (YD u))/\Below w.heap.size w w':=by
 have Y:1<=u:=jO;have aB0:Lib.nDigits u<=20:=by have:=Lib.numDigits_eq u Y A;split at this<;>omega
 have Z:prog.arrayLen 420=24:=by simp[Program.arrayLen,underlying420]
 have yR:∀W,(Instr.sliceAt 420 (.pointer (some ⟨w.heap.size,0,none⟩)) none (some (.int .i64 (Lib.nDigits u:Int))) none).run prog W=.ok (.slice (some ⟨w.heap.size,0,none⟩) (Lib.nDigits u) 24) W:=λW=>by rw[run_sliceAt_array_h W 420 ⟨w.heap.size,0,none⟩ (by simp[Program.arrayLen,Program.elem,underlying420]) .i64 (Lib.nDigits u:Int) jO (by rw[Z];omega)];go_simp
 have U:=Lib.holds_zero0 w 420 (Lib.nDigits u) jO;have C:=Any.internal_strconv_formatBase10 Tryz.jm w.heap.size 0 24 u (Array.replicate (Lib.nDigits u) 0) (w.alloc (.cells Lib.zeros24 420)) U (by rw[auc];exact Lib.lt_pow_nDigits u) A (by rw[auc];omega);rw[auc] at C;have I:=Any.internal_strconv_numDigits Tryz.pG u Y A _ (Lib.tabIs_alloc D (.cells Lib.zeros24 420));have HH0:=aT U;have HN:=aT I;have HF:=aT C;have iu:(100:Int)<=(u:Int):=jO;clear U Z I C D A;go_enter func333,ntmps333;go_wp2_with fail;refine HN.mono ?_;rintro e w' ⟨rfl,rfl⟩;go_wp2_with fail;refine HF.mono ?_;rintro e w' ⟨rfl,k,v',T,rfl,hF⟩;have hcv:(convert 42 9 (.slice (some ⟨w.heap.size,0,none⟩) (Lib.nDigits u) 24)).run prog ((putRow (λ(b:UInt8)=>Value.int .u8 b.toNat) (w.alloc (.cells Lib.zeros24 420)) w.heap.size 0 T).drewN k)=.ok (.string ⟨(Lib.decDigits u).toArray⟩) ((putRow (λ(b:UInt8)=>Value.int .u8 b.toNat) (w.alloc (.cells Lib.zeros24 420)) w.heap.size 0 T).drewN k):=by
  have h:=run_convert_bytes_back (P:=prog) ((putRow (λ(b:UInt8)=>Value.int .u8 b.toNat) (w.alloc (.cells Lib.zeros24 420)) w.heap.size 0 T).drewN k) 42 9 5 ⟨w.heap.size,0,none⟩ 24 (Lib.decDigits u) underlying42 underlying5 underlying9 (λj hj=>by rw[Lib.row_is_numeral hF j hj,Lib.add_plain,World.cell?_drewN];exact cell?_putRow (λ(b:UInt8)=>Value.int .u8 b.toNat) _ w.heap.size 0 _ T HH0 (by rw[hF.size,auc]) j (by rw[hF.size];rw[Lib.decDigits_length] at hj;exact hj))
  rw[Lib.decDigits_length] at h;exact h
 obtain⟨os,eo⟩:=Lib.fin_at w (.cells Lib.zeros24 420) T k 0;have J:Below w.heap.size w ((putRow (λ(b:UInt8)=>Value.int .u8 b.toNat) (w.alloc (.cells Lib.zeros24 420)) w.heap.size 0 T).drewN k):=by rw[eo];exact Lib.below_grow _ w (aP _) k os
 have HX:=aT J;clear eo HH0 hF J HN HF;generalize (putRow (λ(b:UInt8)=>Value.int .u8 b.toNat) (w.alloc (.cells Lib.zeros24 420)) w.heap.size 0 T).drewN k=W2 at*;go_wp2;go_ret;exact⟨rfl,HX⟩
theorem uM(u:Nat)(hu:u<100)(w:World):
 Calls prog 333 #[.int .u64 u,.int .i64 10] w λe w'=>e=.returned (.string (YD u))/\Below w.heap.size w w':=by
 have C:(u:Int)<100:=jO;have hs:=λW=>Any.internal_strconv_small Tryz.jn u hu W
 have A:=aT hs;clear hs;go_enter func333,ntmps333;go_wp2_with fail;refine(A _).mono ?_;rintro e w' ⟨rfl,rfl⟩;go_wp2;go_ret;exact⟨rfl,aG _ _⟩
theorem iZ(u:Nat)(C:u<18446744073709551616)(w:World)(A:WV w):
 Calls prog 333 #[.int .u64 u,.int .i64 10] w λe w'=>e=.returned (.string (YD u))/\Below w.heap.size w w':=by
 by_cases h:u<100;·exact uM u h w
 ·exact ja u jO C w A
theorem ab9(u:Nat)(C:u<18446744073709551616)(w:World)(A:WV w):
 Calls prog 272 #[.int .u64 u,.int .i64 10] w λe w'=>e=.returned (.string (YD u))/\Below w.heap.size w w':=by
 have D:=aT (iZ u C w A);go_enter func272,ntmps272;go_wp2_with fail;refine D.mono ?_;rintro e w' ⟨rfl,hb⟩;go_wp2;go_ret;exact⟨rfl,hb⟩
theorem Uo(u:Nat)(C:u<18446744073709551616)(w:World)(A:WV w):
 Calls prog 211 #[.int .u64 u] w λe w'=>e=.returned (.string (YD u))/\Below w.heap.size w w':=by
 have D:=aT (ab9 u C w A);go_enter func211,ntmps211;go_wp2_with fail;refine D.mono ?_;rintro e w' ⟨rfl,hb⟩;go_wp2;go_ret;exact⟨rfl,hb⟩
theorem F8(i:Nat)(hi:i<100)(w:World):Calls prog 210 #[.int .i64 i] w λe w'=>e=.returned (.string (YD i))/\Below w.heap.size w w':=by
 refine(Any.strconv_Itoa_small Tryz.jq i hi w).mono ?_;rintro e w' ⟨rfl,rfl⟩;exact⟨rfl,aG _ _⟩
end Go.Proofs.YtclgigmgbebhgaaGreatDoor.Zj
namespace Go.Proofs.YtclgigmgbebhgaaGreatDoor.Zj
open Tryz
open Go Go.Proofs Go.RowKit Go.Shelf
variable {xs:List Value} {w:World}
theorem Dc:Builder.Extra prog Tryz.Mc where
 sizeBuilder:=jK
 liesBuilder:=jK
 t5:=underlying5
 a5:=isAgg5
 z5:=sizeOf5
 v5:=zeroValue5
 infoByte:=jK
 cellsByte:=jK
 sizeByte:=jK
 neB5:=jD
theorem M9(bk c:Nat)(xs:List ByteArray)(C:ByteArray)(w:World)(A:∀(j:Nat) x,xs[j]? =some x->w.cell? ⟨bk,0+j,none⟩=some (.string x))(I:bk<w.heap.size)(hN:xs.length<=140737488355328)(D:xs.length<=c)
 (hlen:(Lib.join (xs.map (·.data.toList)) C.data.toList).length<=140737488355328):
 Calls prog 133 #[.slice (some ⟨bk,0,none⟩) xs.length c,.string C] w λe w'=>e=.returned (.string ⟨(Lib.join (xs.map (·.data.toList)) C.data.toList).toArray⟩)/\Below w.heap.size w w':=
 Any.strings_Join Tryz.yy Dc bk 0 c xs C w A I hN D hlen
theorem F7:(prog.info? 9).map (λi=>(i.zero,i.size,i.bytes))=some (some (.string ⟨#[]⟩),1,16):=jK
theorem M8{W W':World}{B e size n:Nat}{v:Value} (h:W.ownsRow B e size v n xs)(hb:Below W.heap.size W W'):W'.ownsRow B e size v n xs:=by
 refine⟨h.1,?_⟩;rcases h.2 with D|⟨g,cap,A,hv,I,C,rest⟩;·exact .inl D
 ·exact .inr ⟨g,cap,A,hv,I,(hb.block g (aab.1 C).1).trans C,rest⟩
theorem iY {B n:Nat}{t:TypeId}(xs:List Value)(hn:xs.length=n)(A:B<=w.heap.size)(C:0<n)(hlen:n<=1000):(w.alloc (.cells xs.toArray t)).ownsRow B t 1 (.slice (some ⟨w.heap.size,0,none⟩) n n) n xs:=by
 subst hn;exact⟨jS,.inr ⟨w.heap.size,xs.length,xs.toArray,rfl,A,arc w _,aP _,by unfold maxLen;omega,jS,jS⟩⟩
theorem M7(w:World)(xs:List Value)(t:TypeId):∀j u,xs[j]? =some u->(w.alloc (.cells xs.toArray t)).cell? ((⟨w.heap.size,0,none⟩:Addr).add j)=some u:=by
 intro j u hu;have:=(Z8.new w t xs.toArray).cell j;rw[Addr.add_lit,adf,this,ak,hu]
theorem Hu {B t n g c:Nat} (h:w.ownsRow B t 1 (.slice (some ⟨g,0,none⟩) n c) n xs):g<w.heap.size/\n<=c:=by
 rcases h.2 with⟨h,_⟩|⟨_,_,_,h,_,A,hc,_⟩
 ·cases h
 ·cases h;exact⟨(aab.1 A).1,hc⟩
theorem F6(a k m v:Nat)(ha:a<=5)(hk:k<7)(hm:m<18446744073709551616)(hv:v<18446744073709551616)(h0:k=6\/m=0)(w:World)(hp:WV w):
 Calls prog 131 #[.agg #[.int .i64 a,.int .i64 ((k:Int)+1),.int .u64 m,.int .u64 v]] w λe w'=>e=.returned (.string (Xe a ((k:Int)+1) m v))/\Below w.heap.size w w':=by
 obtain⟨K,hKk⟩:∃K:Int,(k:Int)+1=K:=⟨_,rfl⟩;rw[hKk];have hR:X4 (a:Int) K (m:Int)=true:=ace ⟨jO,jO,jO,jO,jO⟩;have HR:=aT (λW=>XQ (a:Int) K (m:Int) (v:Int) W);rw[hR] at HR;have hA:=Z8.new w 68 #[.int .i64 a,.int .i64 K,.int .u64 m,.int .u64 v];have hb:=(aG w.heap.size w).alloc (aP _) (.cells #[.int .i64 a,.int .i64 K,.int .u64 m,.int .u64 v] 68);have c0:=hA.cell 0;have c1:=hA.cell 1;have c2:=hA.cell 2;have c3:=hA.cell 3;simp only[ak,aL,aF] at c0 c1 c2 c3;have HA:=aT hA;have HB:=aT hb;have HP:=aT hp;have HM:=aT hm;have HV:=aT hv;have HM0:=aT h0;have HK:=aT hKk;clear hA hb hp hm hv h0 hR;go_enter func131,ntmps131;go_wp2_with fail;refine(HR _).mono ?_;rintro e w2 ⟨rfl,hb2⟩;have J:=pH HA hb2;have X1:=al8 HB hb2;have GY:=aT (HP.below X1);clear hb2 HA HB HP HR c0 c1 c2 c3;go_upto_region 3 with fail;have c0:=J.cell 0;have c1:=J.cell 1;simp only[ak,aL,aF] at c0 c1;have wk:IntKind.i64.wrap (K-1)=(k:Int):=by rw[aJ _ jO];omega
 have wk2:IntKind.i64.wrap (k:Int)=(k:Int):=aJ _ jO;have k0:=jZ k;have k7:(k:Int)<7:=jO;have az3:¬9223372036854775807<1+(YD a).size:=by rw[NZ a ha];decide
 have hIt:=aT (λW=>F8 a jO W);refine amd ?_;refine agc (S:=λw'=>(w'.cell? ⟨w.heap.size,0,none⟩=some (.int .i64 a)/\w'.cell? ⟨w.heap.size,1,none⟩=some (.int .i64 K))/\Below w2.heap.size w2 w') jK (by first|exact⟨⟨c0,c1⟩,(aG _ w2).drew⟩|go_keep) (λhHeld=> ?_);refine jT 0 ⟨some 7,.fieldAddr 68 (.tmp 1) 0,0,"cond.go:65",#[],none⟩ ?_;try simp only[Act.put,aS,aQ,aR]
 refine jT 1 ⟨some 8,.load 3 (.tmp 7),3,"cond.go:65",#[⟨0,.data⟩],none⟩ ?_;try simp only[Act.put,aS,aQ,aR]
 refine jT 5 ⟨some 12,.fieldAddr 68 (.tmp 1) 1,0,"cond.go:65",#[],none⟩ ?_;try simp only[Act.put,aS,aQ,aR]
 refine jT 6 ⟨some 13,.load 3 (.tmp 12),3,"cond.go:65",#[⟨5,.data⟩],none⟩ ?_;try simp only[Act.put,aS,aQ,aR]
 refine jT 7 ⟨some 14,.binOp .sub 3 (.tmp 13) (.const (.int .i64 1)) 3,3,"cond.go:65",#[⟨6,.data⟩],none⟩ ?_;try simp only[Act.put,aS,aQ,aR]
 refine aag (rs:=[2]) jK jS ?_;refine ae (o:=⟨some 9,.call {callee:=.value (.func 210),args:=#[.tmp 8],argTypes:=#[3]},9,"cond.go:65",#[⟨1,.data⟩],none⟩) rfl (λK' hK=> ?_) aad;go_simp;refine(hIt _).mono ?_;rintro e wx ⟨rfl,Y⟩;refine hK _ _ (⟨⟨Ka Y hHeld.1.1,Ka Y hHeld.1.2⟩,hHeld.2.trans (Y.mono hHeld.2.size)⟩) (λhHeld=> ?_);clear hK K';try simp only[Act.put,aS,aQ,aR]
 refine awb (i:=3) (oi:=⟨some 10,.binOp .add 9 (.const (.string {data:=#[97]})) (.tmp 9) 9,9,"cond.go:65",#[⟨2,.data⟩],none⟩) (v:=(.string (⟨#[97]⟩++YD a))) rfl jK jK jK (λ_ _ _ h=>h) (Or.inl ⟨jR,?hy3⟩) jA ?al0
 case hy3=>
  intro w hSw;try dsimp only at hSw
  try obtain⟨hSw,aG1⟩:=hSw
  try go_split_ands
  go_simp;try with_reducible rfl
 try simp only[Act.put,aS,aQ,aR]
 clear Y;refine aag (rs:=[4]) jK jS ?_;refine ae (o:=⟨some 11,.call {callee:=.value (.func 33),args:=#[],argTypes:=#[]},105,"cond.go:65",#[⟨2,.chain⟩],none⟩) rfl (λK' hK=> ?_) aad;go_simp;refine(pD _).mono ?_;rintro e wy ⟨g,rfl,hg,Y⟩;have hop:=ab3 hg k hk;rw[HK.out] at hop;refine hK _ _ (⟨⟨Ka Y hHeld.1.1,Ka Y hHeld.1.2⟩,hHeld.2.trans (Y.mono hHeld.2.size)⟩) (λhHeld=> ?_);clear hK K';try simp only[Act.put,aS,aQ,aR]
 refine Pv (S':=λw'=>((w'.cell? ⟨w.heap.size,0,none⟩=some (.int .i64 a)/\w'.cell? ⟨w.heap.size,1,none⟩=some (.int .i64 K))/\Below w2.heap.size w2 w')/\w'.cell? ⟨g,k*2,none⟩=some (.string (X8 K))) (λ_ h=>h.1) _ _ _ _ ?_;have C:(λw':World=>((w'.cell? ⟨w.heap.size,0,none⟩=some (.int .i64 a)/\w'.cell? ⟨w.heap.size,1,none⟩=some (.int .i64 K))/\Below w2.heap.size w2 w')/\w'.cell? ⟨g,k*2,none⟩=some (.string (X8 K))) wy:=⟨hHeld,hop.1⟩;clear hHeld Y hop hg;refine jT 8 ⟨some 15,.indexAddr 105 (.tmp 11) (.tmp 14),0,"cond.go:65",#[⟨4,.data⟩,⟨7,.data⟩],none⟩ ?_;try simp only[Act.put,aS,aQ,aR]
 refine jT 9 ⟨some 16,.fieldAddr 104 (.tmp 15) 0,0,"cond.go:65",#[⟨8,.data⟩],none⟩ ?_;try simp only[Act.put,aS,aQ,aR]
 refine jT 10 ⟨some 17,.load 9 (.tmp 16),9,"cond.go:65",#[⟨9,.data⟩],none⟩ ?_;try simp only[Act.put,aS,aQ,aR]
 refine aag (rs:=[11]) jK jS ?_;refine ae (o:=⟨some 18,.buildSlice 195 2 #[(0,.tmp 10),(1,.tmp 17)],195,"cond.go:65",#[⟨3,.data⟩,⟨10,.data⟩],none⟩) rfl (λK' hK=> ?_) aad;go_simp;refine hK _ _ ⟨⟨⟨Ka ((aG _ wy).alloc (aP _) _) C.1.1.1,Ka ((aG _ wy).alloc (aP _) _) C.1.1.2⟩,C.1.2.alloc C.1.2.size _⟩,Ka ((aG _ wy).alloc (aP _) _) C.2⟩ (λoW=> ?_);clear hK K';try simp only[Act.put,aS,aQ,aR]
 refine jT 12 ⟨some 3,.assign (.tmp 18),195,"cond.go:65",#[⟨11,.data⟩,⟨4,.chain⟩,⟨0,.phase⟩,⟨1,.phase⟩,⟨2,.phase⟩,⟨3,.phase⟩,⟨4,.phase⟩,⟨5,.phase⟩,⟨6,.phase⟩,⟨7,.phase⟩,⟨8,.phase⟩,⟨9,.phase⟩,⟨10,.phase⟩,⟨11,.phase⟩],none⟩ ?_;try simp only[Act.put,aS,aQ,aR]
 refine akc jK ?_ _;refine ame ?_;have I:=aT oW.1.2;have hO3:((wy.alloc (.cells #[.string (⟨#[97]⟩++YD a),.string (X8 K)] 9)).ownsRow w2.heap.size 9 1 (.slice (some ⟨wy.heap.size,0,none⟩) 2 2) 2 [.string (⟨#[97]⟩++YD a),.string (X8 K)]):=iY (n:=2) [.string (⟨#[97]⟩++YD a),.string (X8 K)] rfl C.1.2.size jD jD;have uq:=aT hO3;clear oW C c0 c1 hIt az3 wk wk2 hO3;generalize wy.alloc (.cells #[.string (⟨#[97]⟩++YD a),.string (X8 K)] 9)=W3 at*;generalize wy.heap.size=N at*;obtain⟨i0,hi,hz0,hz1,hz2⟩:=info_parts F7;have c1:=(J.below I J.lt).cell 1;simp only[ak,aL,aF] at c1;by_cases h7:K=7
 ·subst h7;have c2:=(J.below I J.lt).cell 2;simp only[ak,aL,aF] at c2;have hd:=aT (Uo m HM W3 (GY.below I));clear hKk;go_wp2_with fail;refine hd.mono ?_;rintro e w4 ⟨rfl,hb4⟩;have HX5:=aT ((I.trans (hb4.mono I.size)).alloc (I.trans (hb4.mono I.size)).size (.cells #[.string (YD m),.string ⟨#[61,61]⟩] 9));have HO5:=aT ((M8 uq hb4).alloc (.cells #[.string (YD m),.string ⟨#[61,61]⟩] 9));clear hb4 hd I uq c1 c2
  go_wp2_with (at_builtin;refine aea _ rfl _ _ 195 rfl w2.heap.size 9 i0 (.string ⟨#[]⟩) 1 16 underlying195 hi hz0 hz1 hz2 rfl jD _ 2 _ rfl HO5 ⟨w4.heap.size,0,none⟩ 2 2 [.string (YD m),.string ⟨#[61,61]⟩] rfl rfl ?ma2 ?ma3 ?ma4 ?ma5 ?ma6 ?_;(case ma2=>exact M7 _ _ _);(case ma3=>simp[Value.oneCell']);(case ma4=>unfold maxLen;omega);(case ma5=>omega);(case ma6=>exact HX5.size);intro v' w6 A D _;obtain⟨g6,c6,rfl⟩:=ownsRow_succ A;have NS:=aT (HX5.grown D HX5.size (λk e=>(HO5.lt k e).1));have c3:=(J.below NS J.lt).cell 3;simp only[ak,aL,aF] at c3)
  have eN:Hid (w6.ownsRow w2.heap.size 9 1 (.slice (some ⟨g6,0,none⟩) 4 c6) 4 [.string (⟨#[97]⟩++YD a),.string (X8 7),.string (YD m),.string ⟨#[61,61]⟩]):=A;clear A D HX5 HO5;have hd:=aT (Uo v HV w6 (GY.below NS));go_wp2_with fail;refine hd.mono ?_;rintro e w7 ⟨rfl,T⟩;have U:=aT ((NS.trans (T.mono NS.size)).alloc (NS.trans (T.mono NS.size)).size (.cells #[.string (YD v)] 9));have IW:=aT ((M8 eN T).alloc (.cells #[.string (YD v)] 9));clear T c3 hd NS eN
  go_wp2_with (at_builtin;refine aea _ rfl _ _ 195 rfl w2.heap.size 9 i0 (.string ⟨#[]⟩) 1 16 underlying195 hi hz0 hz1 hz2 rfl jD _ 4 _ rfl IW ⟨w7.heap.size,0,none⟩ 1 1 [.string (YD v)] rfl rfl ?mb2 ?mb3 ?mb4 ?mb5 ?mb6 ?_;(case mb2=>exact M7 _ _ _);(case mb3=>simp[Value.oneCell']);(case mb4=>unfold maxLen;omega);(case mb5=>omega);(case mb6=>exact U.size);intro v' w9 A D _;obtain⟨g9,c9,rfl⟩:=ownsRow_succ A)
  have HX9:=aT (U.grown D U.size (λk e=>(IW.lt k e).1));obtain⟨lf,mR⟩:=Hu A;have hcw:WU a 7 m v=[⟨#[97]⟩++YD a,X8 7,YD m,⟨#[61,61]⟩,YD v]:=by unfold WU;rw[aH rfl]
  have hjo:=M9 g9 c9 [⟨#[97]⟩++YD a,X8 7,YD m,⟨#[61,61]⟩,YD v] ⟨#[32]⟩ w9 (λj x hx=>by
   have hj:=(aq.1 hx).1;rw[adf,A.cellAt j (by simp at hj;omega)];show(List.map Value.string [⟨#[97]⟩++YD a,X8 7,YD m,⟨#[61,61]⟩,YD v])[j]? =_;rw[ada,hx];rfl) lf (by show 5<=_;decide) mR (by have:=Nb a 7 m v ha HM HV;unfold Xe at this;rw[hcw] at this;have h2:((Lib.join (List.map (λx:ByteArray=>x.data.toList) [⟨#[97]⟩++YD a,X8 7,YD m,⟨#[61,61]⟩,YD v]) [32]).toArray).size<=60:=this;rw[aic] at h2;exact aO h2 jD)
  have Z:Calls prog 133 #[.slice (some ⟨g9,0,none⟩) 5 c9,.string ⟨#[32]⟩] w9 λe w'=>e=.returned (.string (Xe a 7 m v))/\Below w9.heap.size w9 w':=by unfold Xe;rw[hcw];exact hjo
  have HJ:=aT Z;clear hjo Z hcw A D IW U;go_wp2_with fail;refine HJ.mono ?_;rintro e wf ⟨rfl,hbf⟩;go_wp2;go_ret;exact⟨rfl,X1.trans ((HX9.trans (hbf.mono HX9.size)).mono X1.size)⟩
 ·have hq7:(K == 7)=false:=by simpa using h7
  go_upto_region 6 with fail;clear c1;have c3:=(J.below I J.lt).cell 3;simp only[ak,aL,aF] at c3;have hd:=aT (Uo v HV W3 (GY.below I));go_wp2_with fail;refine hd.mono ?_;rintro e w7 ⟨rfl,T⟩;have U:=aT ((I.trans (T.mono I.size)).alloc (I.trans (T.mono I.size)).size (.cells #[.string (YD v)] 9));have IW:=aT ((M8 uq T).alloc (.cells #[.string (YD v)] 9));clear T c3 hd I uq
  go_wp2_with (at_builtin;refine aea _ rfl _ _ 195 rfl w2.heap.size 9 i0 (.string ⟨#[]⟩) 1 16 underlying195 hi hz0 hz1 hz2 rfl jD _ 2 _ rfl IW ⟨w7.heap.size,0,none⟩ 1 1 [.string (YD v)] rfl rfl ?mc2 ?mc3 ?mc4 ?mc5 ?mc6 ?_;(case mc2=>exact M7 _ _ _);(case mc3=>simp[Value.oneCell']);(case mc4=>unfold maxLen;omega);(case mc5=>omega);(case mc6=>exact U.size);intro v' w9 A D _;obtain⟨g9,c9,rfl⟩:=ownsRow_succ A)
  have HX9:=aT (U.grown D U.size (λk e=>(IW.lt k e).1));obtain⟨lf,mR⟩:=Hu A;have hcw:WU a K m v=[⟨#[97]⟩++YD a,X8 K,YD v]:=by unfold WU;rw[aN h7]
  have hjo:=M9 g9 c9 [⟨#[97]⟩++YD a,X8 K,YD v] ⟨#[32]⟩ w9 (λj x hx=>by
   have hj:=(aq.1 hx).1;rw[adf,A.cellAt j (by simp at hj;omega)];show(List.map Value.string [⟨#[97]⟩++YD a,X8 K,YD v])[j]? =_;rw[ada,hx];rfl) lf (by show 3<=_;decide) mR (by have:=Nb a K m v ha HM HV;unfold Xe at this;rw[hcw] at this;have h2:((Lib.join (List.map (λx:ByteArray=>x.data.toList) [⟨#[97]⟩++YD a,X8 K,YD v]) [32]).toArray).size<=60:=this;rw[aic] at h2;exact aO h2 jD)
  have Z:Calls prog 133 #[.slice (some ⟨g9,0,none⟩) 3 c9,.string ⟨#[32]⟩] w9 λe w'=>e=.returned (.string (Xe a K m v))/\Below w9.heap.size w9 w':=by unfold Xe;rw[hcw];exact hjo
  have HJ:=aT Z;clear hjo Z hcw A D IW U;go_wp2_with fail;refine HJ.mono ?_;rintro e wf ⟨rfl,hbf⟩;go_wp2;go_ret;exact⟨rfl,X1.trans ((HX9.trans (hbf.mono HX9.size)).mono X1.size)⟩
end Go.Proofs.YtclgigmgbebhgaaGreatDoor.Zj
namespace Go.Proofs.YtclgigmgbebhgaaGreatDoor
open Tryz
open Go Go.Proofs Go.RowKit Go.Maps Go.WideMaps Go.ChangeMaps Go.Sort Go.Shelf
def Ht(c:Z5):ByteArray:=Zj.Xe c.a (c.o:Int) c.m c.v
def Sn(c:Z5):List UInt8:=(Ht c).data.toList
theorem Db(c:Z5):encStr (Sn c)=.string (Ht c):=rfl
theorem Da:∀(x:List UInt8) (C:List (List UInt8)) (A:List UInt8),x≠[]->Lib.join (x::C) A≠[]
 |x,[],A,h=>by simpa [Lib.join] using h
 |x,y::r,A,h=>by
  intro e;have:Lib.join (x::y::r) A=x++(A++Lib.join (y::r) A):=by simp[Lib.join]
  rw[this] at e;exact h (List.append_eq_nil_iff.1 e).1
theorem Hs{C:Nat}:∀A:List (List UInt8),(∀z∈A,z.length<=C)->(Lib.join A [59]).length<=A.length*(C+1)
 |[],_=>by simp[Lib.join]
 |[x],h=>by
  have:=h x jS;have e:Lib.join [x] [59]=x:=by simp[Lib.join]
  rw[e,aj,acg];omega
 |x::y::r,h=>by
  have I:=Hs (y::r) (λz hz=>h z (aff _ hz));have D:=h x jS;have e:Lib.join (x::y::r) [59]=x++59::Lib.join (y::r) [59]:=by simp[Lib.join]
  rw[e,ay,aj,aj,Nat.succ_mul];omega
theorem iX(c:Z5):Sn c≠[]:=by
 have h:∀ws:List (List UInt8),∀d:List UInt8,Lib.join (((97:UInt8)::d)::ws) [32]≠[]:=λws d=>Da _ _ _ jS
 have e:∀a:ByteArray,((⟨#[97]⟩:ByteArray)++a).data.toList=(97:UInt8)::a.data.toList:=λa=>by rw[ByteArray.data_append,Array.toList_append];rfl
 unfold Sn Ht Zj.Xe Zj.WU;split;·rw[aed,e];exact h _ _
 ·rw[aed,e];exact h _ _
theorem oV{c:Z5}(h:c.right):(Sn c).length<=60:=by
 have:=Zj.Nb c.a (c.o:Int) c.m c.v h.1 h.2.2.2.1 h.2.2.2.2;unfold Sn Ht;rw[ang];exact this
theorem oU{c:Z5}(h:c.right)(w:World)(hp:Zj.WV w):Calls prog 131 #[.agg #[.int .i64 c.a,.int .i64 c.o,.int .u64 c.m,.int .u64 c.v]] w λe w'=>e=.returned (.string (Ht c))/\Below w.heap.size w w':=by
 obtain⟨A,J,D,I,C⟩:=h;have:=Zj.F6 c.a (c.o-1) c.m c.v A jO I C (D.imp (λe=>jO) id) w hp;rw[show((c.o-1:Nat):Int)+1=(c.o:Int) from jO] at this;exact this
theorem C9{α:Type}[Inhabited α][DecidableEq α](d:Array α):Lib.keeps d 0=true:=Lib.keeps_lt_one d 0 jD
theorem Mb(zs:List (List UInt8)):(Lib.compact zs).length<=zs.length:=by
 unfold Lib.compact Lib.compactUpTo;rw[aac];refine aO (atc _ _) ?_;rw[afe];exact aP _
theorem J2{zs:List (List UInt8)}{x:List UInt8}(h:x∈Lib.compact zs):x∈zs:=by
 unfold Lib.compact Lib.compactUpTo at h;obtain⟨j,A,rfl⟩:=ah.1 h;have hl:=aib.1 (Rx A);have e:zs.toArray[j]! =zs[j]:=by rw[azd _ j (by simpa using hl)];simp
 rw[e];exact List.getElem_mem hl
theorem Ap{zs:List (List UInt8)}(h:zs≠[]):Lib.compact zs≠[]:=by
 intro e;unfold Lib.compact Lib.compactUpTo at e;have A:=List.map_eq_nil_iff.1 e;have hl:0<zs.length:=ayb.2 h;have:0∈(List.range zs.length).filter (Lib.keeps zs.toArray):=apg.2 ⟨aib.2 hl,C9 _⟩;rw[A] at this;cases this
def iW(cs:List Z5)(w:World)(e:Ending)(w':World):Prop:=∃s:ByteArray,e=.returned (.string s)/\(s.size=0↔cs=[])/\s.size<=100000/\Below w.heap.size w w'
theorem oT{cs:List Z5}{K:Nat}(J:cs.length=K)(hl:K<=1000)(hr:∀c∈cs,c.right){zs:List (List UInt8)}(hz:zs.Perm (cs.map Sn)):(Lib.join (Lib.compact zs) [59]).length<=61000/\(Lib.join (Lib.compact zs) [59]=[]↔cs=[]):=by
 have D:∀z∈zs,∃c∈cs,Sn c=z:=λz h=>by obtain⟨c,hc,e⟩:=ah.1 (hz.mem_iff.1 h);exact⟨c,hc,e⟩
 have hlen:zs.length=K:=by rw[hz.length_eq,aac,J]
 refine⟨?_,?_,?_⟩;·refine aO (Hs (C:=60) _ (λz h=> ?_)) (aO (aub 61 (aO (Mb zs) (by omega:zs.length<=1000))) jD);obtain⟨c,hc,rfl⟩:=D z (J2 h);exact oV (hr c hc)
 ·intro e;cases hcs:cs with
  |nil=>rfl
  |cons c r=>
   have I:zs≠[]:=λh=>by rw[h,hcs] at hz;exact absurd hz.length_eq jS
   have hc:=Ap I;cases A:Lib.compact zs with
   |nil=>exact absurd A hc
   |cons x y=>
    obtain⟨d,_,rfl⟩:=D x (J2 (by rw[A];simp));rw[A] at e;exact absurd e (Da _ _ _ (iX d))
 ·rintro rfl
  have:zs=[]:=by have:=hz.length_eq;simpa using this
  rw[this];rfl
theorem F7:(prog.info? 9).map (λi=>(i.zero,i.size,i.bytes))=some (some (.string ⟨#[]⟩),1,16):=jK
structure Ho(lo:Nat)(cs:List Z5)(w W:World)(v:Value)(m:Nat):Prop where
 Zs:Below lo w W
 row:W.ownsRow lo 9 1 v m (((cs.take m).map Sn).map encStr)
 lo:lo<=W.heap.size
theorem Ho.bl{lo:Nat}{cs:List Z5}{w W W':World}{v:Value}{m:Nat}(h:Ho lo cs w W v m)(hb:Below W.heap.size W W'):Ho lo cs w W' v m:=⟨h.Zs.trans (hb.mono h.lo),ZF h.row hb,aO h.lo hb.size⟩
theorem iV{N K:Nat}{ua:Option Addr}{uc:Nat}{cs:List Z5}(hK:cs.length=K)(hl:K<=1000)(hr:∀c∈cs,c.right)(w:World)(hp:Zj.WV w)(h:YX N w (.slice ua K uc) cs)(hN:N<=w.heap.size):
 Calls prog 81 #[.slice ua K uc] w (iW cs w):=by
 have HC:Hid (∀(k:Nat) (c:Z5),cs[k]? =some c->∃Z off,ua=some ⟨Z,off,none⟩/\Z<N/\w.cell? ⟨Z,off+k*4,none⟩=some (.int .i64 c.a)/\w.cell? ⟨Z,off+k*4+1,none⟩=some (.int .i64 c.o)/\w.cell? ⟨Z,off+k*4+2,none⟩=some (.int .u64 c.m)/\w.cell? ⟨Z,off+k*4+3,none⟩=some (.int .u64 c.v)):=by obtain⟨a,c,e,h⟩:=h;cases e;exact h
 have HK:=aT hK;have HR:=aT hr;have HP:=aT hp;obtain⟨i0,XW,SC,Vo,TF⟩:=ZQ F7;have GL:Hid (Ho w.heap.size cs w w (.slice none 0 0) 0):=⟨aG _ _,Yg _ _ _ _,aP _⟩;clear h hK hr hp;go_enter func81,ntmps81;go_upto_region 3 with fail;go_loopg [3,8] (K+1) (λgg v iv wr=>∃m:Nat,m<=K/\K-m<gg/\iv=.int .i64 (m:Int)/\Hid (Ho w.heap.size cs w wr v m));case atStart=>exact⟨0,abb _,jO,rfl,GL⟩
 case round=>
  obtain⟨m,zw,VM,rfl,HA⟩:=hrel;clear GL;have m0:=jZ m;by_cases hlt:m<K
  ·have Zc:(m:Int)<(K:Int):=by omega
   have iw:=jW m;obtain⟨c,hc⟩:∃c,cs[m]? =some c:=⟨_,aM (by rw[HK.out];exact hlt)⟩;obtain⟨Z,off,rfl,Va,y0,y1,y2,y3⟩:=HC m c hc;have ce:∀j v,w.cell? ⟨Z,j,none⟩=some v->wr.cell? ⟨Z,j,none⟩=some v:=λj v hv=>(HA.Zs.cell (p:=⟨Z,j,none⟩) (acf Va hN)).trans hv
   have y0:=ce _ _ y0;have y1:=ce _ _ y1;have y2:=ce _ _ y2;have y3:=ce _ _ y3;have Ek:Hid ((cs.take (m+1)).map Sn=(cs.take m).map Sn++[Sn c]):=by show _=_;rw[afb,hc,adb];rfl
   have HTx:=aT (λW (hb:Below w.heap.size w W)=>oU (HR c (ag hc)) W (HP.below hb));obtain⟨tx,htx⟩:∃t,Ht c=t:=⟨_,rfl⟩;have HTX:=aT htx;rw[htx] at HTx;have LN:=aT (HA.bl (Yk wr (.cells #[.int .i64 c.a,.int .i64 c.o,.int .u64 c.m,.int .u64 c.v] TC)));have HX1:=aT (Z8.new wr TC #[.int .i64 c.a,.int .i64 c.o,.int .u64 c.m,.int .u64 c.v]);obtain⟨ca,co,cm,cv⟩:=c;dsimp only at y0 y1 y2 y3 HTx LN HX1;clear ce hc htx HA;go_upto_region 5 with fail;generalize wr.alloc (.cells #[.int .i64 ca,.int .i64 co,.int .u64 cm,.int .u64 cv] TC)=w5 at*;generalize wr.heap.size=T5 at*;clear y0 y1 y2 y3;obtain⟨⟨z0,z1,z2,z3⟩,_⟩:=Z7 HX1
   go_wp2_with (first
    |(go_at_call 131;refine(HTx _ LN.Zs).mono ?_;rintro e D ⟨rfl,hb6⟩;have T:=aT ((LN.bl hb6).bl (Yk D (.cells #[.string tx] 9)));have az4:=T.lo;clear hb6)
    |(at_builtin;refine aea _ rfl _ _ 195 rfl w.heap.size 9 i0 (.string ⟨#[]⟩) 1 16 underlying195 XW SC Vo TF rfl jD _ m _ rfl T.row ⟨D.heap.size,0,none⟩ 1 1 [.string tx] rfl ?c1 ?c2 ?c3 ?c4 ?c5 ?c6 ?_;(case c1=>rfl);(case c2=>exact Y1 rfl);(case c3=>simp[Value.oneCell']);(case c4=>unfold maxLen;omega);(case c5=>omega);(case c6=>exact az4);intro v' w7 Y C _))
   have HA7:Hid (Ho w.heap.size cs w w7 v' (m+1)):=by refine⟨T.Zs.grown C T.lo (λk e=>(T.row.lt k e).1),?_,aO T.lo C.size⟩;rw[Ek.out,adb,aed,ard,Db,HTX.out];exact Y
   clear Y C;go_wp2_with fail;go_roundg (K-m);case measure=>omega
   case rel=>exact⟨m+1,jO,jO,by go_num,HA7⟩
  ·obtain rfl:m=K:=by omega
   have Zc:¬(m:Int)<(m:Int):=jO;have J:=HA.row;rw[abd (by rw[HK.out];exact aP _)] at J;rcases J.2 with⟨rfl,hz⟩|⟨gb,cap,cur,rfl,U,hgb,r1,r2,r3,r4⟩
   ·subst hz;have FX:Hid (cs=[]):=aof HK;have cS:=λW=>AnyM.slices_Sort_string_none Tryz.sortStr none 0 W
    have cC:=λW=>Any.slices_Compact_string_empty Tryz.yx none 0 W
    have cJ:=λW=>Any.strings_Join_none Tryz.yy Zj.Dc none 0 ⟨#[59]⟩ W
    have HS:=aT cS;have eT:=aT cC;have HJ:=aT cJ;clear J cS cC cJ
    go_wp2_with (first
     |(go_at_call 132;refine(HS _).mono ?_;rintro e D ⟨rfl,rfl⟩)
     |(go_at_call 134;refine(eT _).mono ?_;rintro e D ⟨rfl,rfl⟩)
     |(go_at_call 133;refine(HJ _).mono ?_;rintro e D ⟨rfl,rfl⟩))
    go_ret;exact⟨_,rfl,(by rw[FX.out];exact⟨λ_=>rfl,λ_=>rfl⟩),jD,HA.Zs⟩
   ·obtain⟨ss,yY⟩:=jX (cs.map Sn);have yR:ss.length=m:=by rw[<-yY,aac,HK.out]
    rw[yY] at r4;have hH:Holds encStr wr gb 0 ss.toArray:=holds_of_block hgb (by rw[yR];simpa using r4);have JU:gb<wr.heap.size:=(aab.1 hgb).1;have HS:=aT (AnyM.slices_Sort_string Tryz.sortStr gb 0 cap ss wr hH JU jO);rw[yR] at HS;have hpz:(ss.mergeSort λx y=>decide (x<=y)).Perm ss:=List.mergeSort_perm _ _;obtain⟨zs,hzs⟩:=jX ((ss.mergeSort λx y=>decide (x<=y)));rw[hzs] at HS hpz;have hzl:zs.length=m:=by rw[hpz.length_eq,yR]
    have HKZ:=aT (oT (zs:=zs) HK hl HR (by rw[yY];exact hpz));have dm:Hid (∀n os,Holds encStr (grow (putRow encStr (Sort.ahead wr n) gb 0 zs.toArray) os) gb 0 zs.toArray/\Below w.heap.size w (grow (putRow encStr (Sort.ahead wr n) gb 0 zs.toArray) os)/\gb<(grow (putRow encStr (Sort.ahead wr n) gb 0 zs.toArray) os).heap.size):=λn os=>by have g1:=grownBy_sorted (w:=wr) (g:=gb) (n:=n) (os:=os) zs.toArray;refine⟨holds_grow _ _ _ _ _ _ (by simpa using JU) (holds_putRow _ _ _ _ ss.toArray _ (holds_ahead _ _ _ _ _ _ hH) (by simp[hzl,yR])),HA.Zs.grown g1 HA.lo (λk e=>by cases e;exact U),acf JU g1.size⟩
    clear hH J r4 yY hzs hpz hgb r3;have I9:=Mb zs;obtain⟨A,hcz⟩:=jX (Lib.compact zs);rw[hcz] at HKZ I9;have HCZ:=aT hcz;clear hcz;go_wp2_with fail;refine HS.mono ?_;rintro e D ⟨rfl,n6,os6,rfl⟩;obtain⟨bD,hB6,kK⟩:=dm n6 os6;generalize grow (putRow encStr (Sort.ahead wr n6) gb 0 zs.toArray) os6=D at*;have gl:=aT bD;have eT:=aT (Any.slices_Compact_string Tryz.yx gb 0 cap zs D bD jO jO);rw[hzl,HCZ.out] at eT;have CT:=aT hB6;clear bD hB6;go_wp2_with fail;refine eT.mono ?_;rintro e w7 ⟨rfl,q7,rfl⟩;have hH7:Holds encStr (putRow encStr (Sort.ahead D q7) gb 0 (A++List.replicate (m-A.length) []).toArray) gb 0 (A++List.replicate (m-A.length) []).toArray:=holds_putRow _ _ _ _ zs.toArray _ (holds_ahead _ _ _ _ _ _ gl) (by simp;omega);have hB7:Below w.heap.size w (putRow encStr (Sort.ahead D q7) gb 0 (A++List.replicate (m-A.length) []).toArray):=by have g1:=grownBy_sorted (w:=D) (g:=gb) (n:=q7) (os:=#[]) (A++List.replicate (m-A.length) []).toArray;rw[grow_empty] at g1;exact CT.grown g1 CT.size (λk e=>by cases e;exact U)
    have hg7:gb<(putRow encStr (Sort.ahead D q7) gb 0 (A++List.replicate (m-A.length) []).toArray).heap.size:=by have g1:=grownBy_sorted (w:=D) (g:=gb) (n:=q7) (os:=#[]) (A++List.replicate (m-A.length) []).toArray;rw[grow_empty] at g1;exact acf kK g1.size
    have I:∀(j:Nat) x,(A.map (λl:List UInt8=>(⟨l.toArray⟩:ByteArray)))[j]? =some x->(putRow encStr (Sort.ahead D q7) gb 0 (A++List.replicate (m-A.length) []).toArray).cell? ⟨gb,0+j,none⟩=some (.string x):=λj x hx=>by rw[ada] at hx;obtain⟨l,hl,rfl⟩:=Option.map_eq_some_iff.1 hx;have hj:=(aq.1 hl).1;have h:=(hH7 j (by simp;omega)).1;rw[h,azd _ j (by simp;omega)];simp only[List.getElem_toArray];rw[List.getElem_append_left hj,(aq.1 hl).2]
    generalize putRow encStr (Sort.ahead D q7) gb 0 (A++List.replicate (m-A.length) []).toArray=w7 at*;have JO:(A.map (λl:List UInt8=>(⟨l.toArray⟩:ByteArray))).map (·.data.toList)=A:=by rw[akb];exact List.map_id'' (λl=>jS) _
    have HJ:=aT (Zj.M9 gb cap (A.map (λl:List UInt8=>(⟨l.toArray⟩:ByteArray))) ⟨#[59]⟩ w7 I hg7 (by rw[aac];omega) (by rw[aac];omega) (by rw[JO];exact aO HKZ.1 jD));rw[JO,aac] at HJ;have OA:=aT hB7;clear hH7 hB7 hg7 I JO;go_wp2_with fail;refine HJ.mono ?_;rintro e w8 ⟨rfl,hb8⟩;go_wp2_with fail;go_ret;refine⟨_,rfl,?_,?_,OA.trans (hb8.mono OA.size)⟩
    ·rw[<-HKZ.out.2];constructor;·intro e;exact aof e
     ·intro e;show(Lib.join A [59]).length=0;rw[e];try rfl
    ·exact aO HKZ.1 jD
end Go.Proofs.YtclgigmgbebhgaaGreatDoor
namespace Go.Proofs.YtclgigmgbebhgaaGreatDoor
open Tryz
open Go Go.Proofs Go.RowKit Go.Maps Go.WideMaps Go.ChangeMaps
variable {s:ByteArray} {ks:List ByteArray} {q N K BR:Nat}
def WT(c:Z5):Bool:=decide (c.o=7/\(c.v &&& c.m)≠c.v)
theorem oQ(c:Z5)(hm:c.m<YO)(hv:c.v<YO)(w:World):Calls prog 80 #[.agg #[.int .i64 c.a,.int .i64 c.o,.int .u64 c.m,.int .u64 c.v]] w λe w'=>e=.returned (.bool (WT c))/\Below w.heap.size w w':=by
 have hk:=MW hv hm;unfold WT;obtain⟨a,o,m,v⟩:=c;dsimp only at*;have T:=aT (Yk w (.cells #[.int .i64 a,.int .i64 o,.int .u64 m,.int .u64 v] TC));have Y:=aT (Z8.new w TC #[.int .i64 a,.int .i64 o,.int .u64 m,.int .u64 v]);go_enter func80,ntmps80;go_upto_region 1 with fail;generalize w.alloc (.cells #[.int .i64 a,.int .i64 o,.int .u64 m,.int .u64 v] TC)=w1 at*;obtain⟨⟨z0,z1,z2,z3⟩,_⟩:=Z7 Y;by_cases D:o=7
 ·subst D;by_cases A:bits .andNot .u64 (v:Int) (m:Int)=0
  ·have C:=aT (hk.1 A);have I:(bits .andNot .u64 (v:Int) (m:Int) != 0)=false:=by simpa using A
   have J:(bits .andNot .u64 (v:Int) (m:Int) == 0)=true:=by simpa using A
   clear hk A;go_wp2_with fail;go_ret;exact⟨by simp[C.out],T⟩
  ·have C:Hid ((v &&& m)≠v):=λe=>A (hk.2 e)
   have I:(bits .andNot .u64 (v:Int) (m:Int) != 0)=true:=by simpa using A
   have J:(bits .andNot .u64 (v:Int) (m:Int) == 0)=false:=by simpa using A
   clear hk A;go_wp2_with fail;go_ret;exact⟨by simp[C.out],T⟩
 ·have U:=aT D
  have Z:((o:Int) == 7)=false:=by rw[af];omega
  clear hk D;go_wp2_with fail;go_ret;exact⟨by simp[U.out],T⟩
def iT(b:Bool)(w:World)(e:Ending)(w':World):Prop:=∃z:Int,e=.returned (.int .i64 z)/\decide (0<=z)=b/\Below w.heap.size w w'
theorem oP{α:Type}{p:α->Bool}{l:List α} {x:α}(h:(l.take q).any p=false)(hx:l[q]? =some x)(hp:p x=false):(l.take (q+1)).any p=false:=by
 rw[afb,hx,List.any_append,h];simp[hp]
theorem iR{α:Type}{p:α->Bool}{l:List α} {x:α}(hx:l[q]? =some x)(hp:p x=true):l.any p=true:=akg.2 ⟨x,ag hx,hp⟩
theorem C8 {ua:Option Addr}{uc:Nat}{cs:List Z5}(hK:cs.length=K)(hl:K<=1000000)(hr:∀c∈cs,c.m<YO/\c.v<YO)(w:World)(h:YX N w (.slice ua K uc) cs)(hN:N<=w.heap.size):
 Calls prog 130 #[.slice ua K uc,.func (.func 80) #[] #[]] w (iT (cs.any WT) w):=by
 have HC:Hid (∀(k:Nat) (c:Z5),cs[k]? =some c->∃D off,ua=some ⟨D,off,none⟩/\D<N/\w.cell? ⟨D,off+k*4,none⟩=some (.int .i64 c.a)/\w.cell? ⟨D,off+k*4+1,none⟩=some (.int .i64 c.o)/\w.cell? ⟨D,off+k*4+2,none⟩=some (.int .u64 c.m)/\w.cell? ⟨D,off+k*4+3,none⟩=some (.int .u64 c.v)):=by obtain⟨a,c,e,h⟩:=h;cases e;exact h
 have HK:=aT hK;have HR:=aT hr;clear h hK hr;go_enter func130,ntmps130;go_upto_region 2 with fail;go_loopg [5,8] (K+1) (λgg _ iv wr=>∃q:Nat,q<=K/\K-q<gg/\iv=.int .i64 (q:Int)/\Hid ((cs.take q).any WT=false)/\Hid (Below w.heap.size w wr));case atStart=>exact⟨0,abb _,jO,rfl,(by show _=_;rfl),aG _ _⟩
 case round=>
  obtain⟨q,hqL,VM,rfl,HT,U⟩:=hrel;have q0:=jZ q;by_cases hq:q<K
  ·have lH:(q:Int)<(K:Int):=by omega
   obtain⟨c,hc⟩:∃c,cs[q]? =some c:=⟨_,aM (by rw[HK.out];exact hq)⟩;obtain⟨D,off,rfl,I7,y0,y1,y2,y3⟩:=HC q c hc;have az5:D<w.heap.size:=acf I7 hN;have Y:∀j v,w.cell? ⟨D,j,none⟩=some v->wr.cell? ⟨D,j,none⟩=some v:=λj v hv=>(U.cell (p:=⟨D,j,none⟩) az5).trans hv
   have y0:=Y _ _ y0;have y1:=Y _ _ y1;have y2:=Y _ _ y2;have y3:=Y _ _ y3;have I:=HR c (ag hc);have J:=aT (oQ c I.1 I.2 wr);cases A:WT c with
   |false=>
    have Un:=aT (oP HT hc A);rw[A] at J;clear Y hc A I;go_wp2_with fail;refine J.mono ?_;rintro e w1 ⟨rfl,C⟩;have T:=aT (U.trans (C.mono U.size));clear C y0 y1 y2 y3;go_wp2;go_roundg (K-q);case measure=>omega
    case rel=>exact⟨q+1,jO,jO,by go_num,Un,T⟩
   |true=>
    have HF:=aT (iR hc A);rw[A] at J;clear Y hc A I;go_wp2_with fail;refine J.mono ?_;rintro e w1 ⟨rfl,C⟩;have T:=aT (U.trans (C.mono U.size));clear C y0 y1 y2 y3;go_wp2;go_ret;exact⟨_,rfl,by rw[HF.out];exact ace q0,T⟩
  ·obtain rfl:K=q:=by omega
   have lH:¬(K:Int)<(K:Int):=jO;have Z:Hid (cs.any WT=false):=by have h:=HT.out;rwa [abd (by rw[HK.out];exact aP _)] at h
   go_wp2;go_ret;exact⟨_,rfl,by rw[Z.out];decide,U⟩
theorem C7 {ua:Option Addr}{uc:Nat}{cs:List Z5}(I:cs.length=K)(hl:K<=1000000)(hr:∀c∈cs,c.m<YO/\c.v<YO)(w:World)(h:YX N w (.slice ua K uc) cs)(hN:N<=w.heap.size):
 Calls prog 79 #[.slice ua K uc,.func (.func 80) #[] #[]] w λe w'=>e=.returned (.bool (cs.any WT))/\Below w.heap.size w w':=by
 have D:=aT (C8 (uc:=uc) I hl hr w h hN);generalize cs.any WT=b at*;clear h hN hr I;go_enter func79,ntmps79;go_wp2_with fail;refine D.mono ?_;rintro e T ⟨z,rfl,hz,A⟩;have C:=aT A;have J:Hid (decide ((0:Int)<=z)=b):=hz;clear A D hz;go_wp2;go_ret;exact⟨G8 J,C⟩
theorem SJ {nm:ByteArray}{k n:Int}{ua:Option Addr}{uc:Nat}{cs:List Z5}(I:cs.length=K)(hl:K<=1000000)(hr:∀c∈cs,c.m<YO/\c.v<YO)(w:World)(h:YX N w (.slice ua K uc) cs)(hN:N<=w.heap.size)(J:Z8 w BR TR #[.string nm,.int .i64 k,.int .i64 n,.slice ua K uc]):
 Calls prog 78 #[.pointer (some ⟨BR,0,none⟩)] w λe w'=>e=.returned (.bool (!cs.any WT))/\Below w.heap.size w w':=by
 have D:=aT (C7 (uc:=uc) I hl hr w h hN);generalize cs.any WT=b at*;obtain⟨⟨U,Y,T,Z⟩,_⟩:=Z7 J;clear h hN hr I J;go_enter func78,ntmps78;go_wp2_with fail;refine D.mono ?_;rintro e w1 ⟨rfl,A⟩;have C:=aT A;clear A D U Y T Z;go_wp2_with fail;go_ret;exact⟨rfl,C⟩
theorem Ao{BT:Nat}{nm:ByteArray}{k n:Int}{u:Value}(J:Option Addr)(Y:Nat)(l:List Z4.Z0)(w:World)(I:l.length<=1000000)(hR:Z4.VS w (.slice J l.length Y) l)(hT:Z4.Zv l)(C:Z8 w BT 41 #[.slice J l.length Y])(hB:Z8 w BR TR #[.string nm,.int .i64 k,.int .i64 n,u]):
 Calls prog 77 #[.pointer (some ⟨BT,0,none⟩),.pointer (some ⟨BR,0,none⟩)] w λe w'=>e=.returned (.bool (decide (0<=Z4.firstIdx (Z4.Uy nm) l)))/\Below w.heap.size w w':=by
 have Z:=aT (KO nm (.slice J l.length Y) l w I hR hT);obtain⟨y,hy⟩:=jX (YP l nm);rw[hy] at Z;unfold Z4.Z0.val at Z;generalize Z4.firstIdx (Z4.Uy nm) l=fi at*;generalize l.length=ll at*;have t0:=C.e0;obtain⟨⟨z0,z1,z2,z3⟩,_⟩:=Z7 hB;clear hy hR hT C hB;go_enter func77,ntmps77;go_wp2_with fail;refine Z.mono ?_;rintro e w1 ⟨kk,b,rfl,D,A⟩;have U:=aT D;have T:=aT (A.alloc A.size (.cells #[.string y.name,.int .i64 y.n0,.int .i64 y.n1,.int .i64 y.n2,.int .i64 y.n3,.int .i64 y.n4,.int .i64 y.Ys,.int .i64 y.sub] 40));clear D A t0 z0 z1 z2 z3;go_wp2_with fail;go_ret;refine⟨?_,T⟩;have:b=decide (0<=fi):=by rw[ale,U.out,adg]
 rw[this];rfl
def CK(s:ByteArray)(ks:List ByteArray):Bool:=ks.any λt=>decide (t=s)
theorem NV:CK s ks=true↔s∈ks:=by
 unfold CK;rw[akg];exact⟨λ⟨t,A,C⟩=>by rw[<-ahf C];exact A,λh=>⟨s,h,ace rfl⟩⟩
def uL(ks:List ByteArray):List (Value×Value):=ks.map λs=>(.string s,.bool true)
theorem ac0:∀W,(zeroValue 4).run prog W=.ok (.bool false) W:=λ_=>jK
theorem C6{W:World}{B:Nat} (h:ZB W B (uL ks))(hd:ks.Pairwise (·≠·))(hs:∀s∈ks,s.size<=1000000) (hz:s.size<=1000000):(Instr.lookup 182 (.map (some B)) (.string s) false).run prog W=.ok (.bool (CK s ks)) W:=by
 have hk:∀p∈uL ks,∃l,keyOf prog 9 p.1=some l:=λp hp=>by obtain⟨x,hx,rfl⟩:=ah.1 hp;exact Oz x (hs x hx)
 by_cases hm:s∈ks;·rw[NV.2 hm];exact Xu underlying182 TA h hk (Oz s hz) (ah.2 ⟨s,hm,rfl⟩) (afa.2 (hd.imp (λA e=>A (aqg e))))
 ·rw[show CK s ks=false by rw[<-Bool.not_eq_true,NV];exact hm]
  exact Uf underlying182 TA ac0 h hk (Oz s hz) (λp hp e=>by obtain⟨x,hx,rfl⟩:=ah.1 hp;exact hm (by rw[<-aqg e];exact hx))
theorem Am{PM B BR BO:Nat}{nm own:ByteArray}{k n:Int}{u:Value}{ks:List ByteArray}(w:World)(D:ZB w B (uL ks))(hd:ks.Pairwise (·≠·))(hs:∀s∈ks,s.size<=1000000)(hn:nm.size<=1000)(ho:own.size<=1000000)(C:Z8 w PM 182 #[.map (some B)])(T:Z8 w BR TR #[.string nm,.int .i64 k,.int .i64 n,u])(U:Z8 w BO 9 #[.string own]):
 Calls prog 82 #[.pointer (some ⟨PM,0,none⟩),.pointer (some ⟨BR,0,none⟩),.pointer (some ⟨BO,0,none⟩)] w λe w'=>e=.returned (.bool (!CK (nm++⟨#[58]⟩) ks && !CK own ks))/\Below w.heap.size w w':=by
 have J:(nm++(⟨#[58]⟩:ByteArray)).size<=1000000:=by rw[axa];show nm.size+1<=_;omega
 have A:=C6 D hd hs J;have I:=C6 D hd hs ho;have m0:=C.e0;have Z:=U.e0;obtain⟨⟨z0,z1,Y,z3⟩,_⟩:=Z7 T;generalize CK (nm++(⟨#[58]⟩:ByteArray)) ks=b1 at*;generalize CK own ks=b2 at*;clear D hd hs ho C T U;cases b1 with
 |true=>
  go_enter func82,ntmps82
  go_wp2_with (rw[A])
  go_ret;exact⟨rfl,aG _ _⟩
 |false=>
  go_enter func82,ntmps82
  go_wp2_with (first|rw[A]|rw[I])
  go_ret;exact⟨by cases b2<;>rfl,aG _ _⟩
end Go.Proofs.YtclgigmgbebhgaaGreatDoor
namespace Go.Proofs.YtclgigmgbebhgaaGreatDoor.Z4
open Tryz
open Go Go.Proofs Go.RowKit
variable {a:Nat} {W W' w:World}
def yi(l:List Z0)(i:Nat)(p:Int×Int):Prop:=
 ∃k,k<i/\((∃a:Nat,a<5/\0<=(l[k]!).num a/\p=((a:Int),(l[k]!).num a))\/(0<(l[k]!).Ys/\p=(5+(l[k]!).Ys,(l[k]!).sub)))
def eM(y:Z0)(a:Nat)(p:Int×Int):Prop:=∃a':Nat,a'<a/\a'<5/\0<=y.num a'/\p=((a':Int),y.num a')
def YK(l:List Z0)(i:Nat)(y:Z0)(a:Nat)(S:List (Int×Int)):Prop:=∀p,p∈S↔yi l i p\/eM y a p
theorem C5(S:List (Int×Int))(p q:Int×Int):q∈J8 S p↔q∈S\/q=p:=by
 unfold J8;split
 ·rename_i h;constructor;·exact .inl
  ·rintro(A|rfl);·exact A
   ·exact h
 ·simp
theorem YK.num{l:List Z0}{i:Nat}{y:Z0}{S:List (Int×Int)}(h:YK l i y a S)(ha:a<5)(D:0<=y.num a):((a:Int),y.num a)∈S↔∃k,k<i/\(l[k]!).num a=y.num a:=by
 rw[h];constructor
 ·rintro(⟨k,hk,⟨b,hb,C,A⟩|⟨C,A⟩⟩|⟨b,hb,_,_,A⟩);·simp only[asa] at A;obtain rfl:a=b:=jO;exact⟨k,hk,A.2.symm⟩
  ·simp only[asa] at A;omega
  ·simp only[asa] at A;omega
 ·rintro⟨k,hk,C⟩;exact .inl ⟨k,hk,.inl ⟨a,ha,by rw[C];exact D,by rw[C]⟩⟩
theorem YK.Ys{l:List Z0}{i:Nat}{y:Z0}{S:List (Int×Int)}(h:YK l i y a S)(I:0<y.Ys):(5+y.Ys,y.sub)∈S↔∃k,k<i/\(l[k]!).Ys=y.Ys/\(l[k]!).sub=y.sub:=by
 rw[h];constructor
 ·rintro(⟨k,hk,⟨b,hb,C,A⟩|⟨C,A⟩⟩|⟨b,hb,D,_,A⟩);·simp only[asa] at A;omega
  ·simp only[asa] at A;exact⟨k,hk,jO,jO⟩
  ·simp only[asa] at A;omega
 ·rintro⟨k,hk,C,A⟩;exact .inl ⟨k,hk,.inr ⟨jO,by rw[C,A]⟩⟩
theorem YK.skip{l:List Z0}{i:Nat}{y:Z0}{S:List (Int×Int)}(h:YK l i y a S)(J:y.num a= -1):YK l i y (a+1) S:=by
 intro p;rw[h];constructor
 ·rintro(h|⟨b,I,A,C,D⟩);·exact .inl h
  ·exact .inr ⟨b,jO,A,C,D⟩
 ·rintro(h|⟨b,I,A,C,D⟩);·exact .inl h
  ·refine .inr ⟨b,?_,A,C,D⟩;by_cases e:b=a;·subst e;omega
   ·omega
theorem YK.add{l:List Z0}{i:Nat}{y:Z0}{S:List (Int×Int)}(h:YK l i y a S)(ha:a<5)(I:0<=y.num a):YK l i y (a+1) (J8 S ((a:Int),y.num a)):=by
 intro p;rw[C5,h];constructor
 ·rintro((h|⟨b,J,C,D,A⟩)|rfl);·exact .inl h
  ·exact .inr ⟨b,jO,C,D,A⟩
  ·exact .inr ⟨a,jO,ha,I,rfl⟩
 ·rintro(h|⟨b,J,C,D,A⟩);·exact .inl (.inl h)
  ·by_cases e:b=a;·subst e;exact .inr A
   ·exact .inl (.inr ⟨b,jO,C,D,A⟩)
theorem J1(l:List Z0)(i:Nat)(p:Int×Int):yi l (i+1) p↔yi l i p\/eM l[i]! 5 p\/(0<(l[i]!).Ys/\p=(5+(l[i]!).Ys,(l[i]!).sub)):=by
 constructor
 ·rintro⟨k,hk,h⟩;by_cases e:k=i
  ·subst e;rcases h with⟨a,C,A,D⟩|h;·exact .inr (.inl ⟨a,C,C,A,D⟩)
   ·exact .inr (.inr h)
  ·exact .inl ⟨k,jO,h⟩
 ·rintro(⟨k,hk,h⟩|⟨a,C,A,D,I⟩|h);·exact⟨k,jO,h⟩
  ·exact⟨i,jO,.inl ⟨a,A,D,I⟩⟩
  ·exact⟨i,jO,.inr h⟩
def Seen(l:List Z0)(i:Nat)(S:List (Int×Int)):Prop:=∀p,p∈S↔yi l i p
theorem Seen.start{l:List Z0}{i:Nat}{S:List (Int×Int)}(h:Seen l i S)(y:Z0):YK l i y 0 S:=by
 intro p;rw[h];constructor;·exact .inl
 ·rintro(h|⟨b,A,_⟩);·exact h
  ·omega
theorem YK.done{l:List Z0}{i:Nat}{y:Z0}{S:List (Int×Int)}(h:YK l i y 5 S)(hy:l[i]! =y)(A:¬0<y.Ys):Seen l (i+1) S:=by
 intro p;rw[h,J1,hy];constructor
 ·rintro(h|h);·exact .inl h
  ·exact .inr (.inl h)
 ·rintro(h|h|h);·exact .inl h
  ·exact .inr h
  ·exact absurd h.1 A
theorem YK.iQ{l:List Z0}{i:Nat}{y:Z0}{S:List (Int×Int)}(h:YK l i y 5 S)(hy:l[i]! =y)(A:0<y.Ys):Seen l (i+1) (J8 S (5+y.Ys,y.sub)):=by
 intro p;rw[C5,h,J1,hy];constructor
 ·rintro((h|h)|h);·exact .inl h
  ·exact .inr (.inl h)
  ·exact .inr (.inr ⟨A,h⟩)
 ·rintro(h|h|h);·exact .inl (.inl h)
  ·exact .inl (.inr h)
  ·exact .inr h.2
theorem Seen.nil(l:List Z0):Seen l 0 []:=by
 intro p;constructor;·intro h;simp at h
 ·rintro⟨k,hk,_⟩;omega
structure C4(B:Nat)(W W':World):Prop where
 os:W'.os=W.os
 tape:W'.tape=W.tape
 output:W'.output=W.output
 size:W.heap.size<=W'.heap.size
 block:∀b,b<W.heap.size->b≠B->W'.heap[b]? =W.heap[b]?
theorem C4.blk{B:Nat} (h:C4 B W W'){b:Nat}{t:TypeId}{cs:Array Value}(hb:Z8 W b t cs)(A:b≠B):Z8 W' b t cs:=(h.block b hb.lt A).trans hb
theorem C4.below{B n:Nat} (h:C4 B W W')(hb:Below n w W)(hn:n<=B)(hs:n<=W.heap.size):Below n w W':=
 ⟨by rw[h.os,hb.os],by rw[h.tape,hb.tape],by rw[h.output,hb.output],aO hb.size h.size,λb A=>(h.block b jO jO).trans (hb.block b A)⟩
theorem Ge.kept{B:Nat}{S:List (Int×Int)}{p:Int×Int}{w':World}{e:Ending}(h:Ge B S p w e w'):e=.returned (.bool (decide (p∈S)))/\XS w' B (J8 S p)/\C4 B w w':=
 ⟨h.1,h.2.1,⟨h.2.2.2.1.symm,h.2.2.2.2.1.symm,h.2.2.2.2.2.1.symm,h.2.2.1,h.2.2.2.2.2.2⟩⟩
end Go.Proofs.YtclgigmgbebhgaaGreatDoor.Z4
