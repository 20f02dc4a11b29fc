/- TopFirst: part 38: TopLw6 TopLwP CondFu CondText TopVal1 TopVal2 SysSeen. -/
import Derived.Lib.AppendIntMem
import Derived.ArgAppend
import Derived.Test.YtclgigmgbebhgaaGreatDoorF37
set_option linter.unusedVariables false
set_option linter.unusedSimpArgs false
set_option maxRecDepth 100000
set_option maxHeartbeats 16000000
namespace Go.Proofs.YtclgigmgbebhgaaGreatDoor
open Tryz
open Go Go.Proofs Go.RowKit
abbrev ND:Nat:=58
structure NC(s:Nat)(w:World)(cs:Array Value)(v:Value)(bs:List Nat)(m:Nat)(W:World):Prop where
 box:Z7 W s ND cs
 row:W.ownsRow (s+1) TB 1 v m (Zl bs)
 Zr:Below s w W
section
variable {s m:Nat} {w W W':World} {cs:Array Value} {v:Value} {bs:List Nat}
theorem NC.to(h:NC s w cs v bs m W)(hb:Below W.heap.size W W'):NC s w cs v bs m W':=
 ⟨h.box.below hb h.box.lt,ZC h.row hb,h.Zr.trans (hb.mono (acf h.box.lt))⟩
theorem NC.more{v':Value}{m':Nat}{ns:List Nat}(h:NC s w cs v bs m W)(C:W.grownBy W' v.ownBlock)(hr:W'.ownsRow (s+1) TB 1 v' m' (Zl bs++Zl ns)):NC s w cs v' (bs++ns) m' W':=
 ⟨h.box.kept C (λe=>YV h.row h.box jD e.symm),(by rw[JA];exact hr),h.Zr.grown C (acf h.box.lt) (λk e=>by have:=(h.row.lt k e).1;omega)⟩
end
def UZ(al:List Nat):List Nat:=al.flatMap (leB 8)
theorem zR{al:List Nat}{i x:Nat}(h:al[i]? =some x):UZ (al.take (i+1))=UZ (al.take i)++leB 8 x:=by
 unfold UZ;rw[afd,h,aca];simp
def Yc(num aD1 ptr:Nat)(al:List Nat):List Nat:=leB 4 num++leB 4 aD1++leB 8 ptr++UZ al
theorem OI(bs:List Nat):(Zl bs).length=bs.length:=by unfold Zl;rw[aab]
theorem zQ(num C ptr a0 a1 a2 a3 a4 D:Nat)(hn:num<4294967296)(ha:C<4294967296)(hp:ptr<YN)(h0:a0<YN)(h1:a1<YN)(h2:a2<YN)(h3:a3<YN)(h4:a4<YN)(h5:D<YN)(w:World):
 Calls prog 13 #[.agg #[.int .u32 num,.int .u32 C,.int .u64 ptr,.int .u64 a0,.int .u64 a1,.int .u64 a2,.int .u64 a3,.int .u64 a4,.int .u64 D],.bool false] w λe w'=>∃v,e=.returned v/\w'.ownsRow w.heap.size TB 1 v 64 (Zl (Yc num C ptr [a0,a1,a2,a3,a4,D]))/\Below w.heap.size w w':=by
 obtain⟨i0,hi,hz0,hz1,hz2⟩:=ZP yu;have Oi:=aT (λW=>QA num 4 (by unfold YN;omega) jD W);have Uj:=aT (λW=>QA C 4 (by unfold YN;omega) jD W);have Gg:=aT (λW=>QA ptr 8 hp jD W);have HAs:Hid (∀a∈[a0,a1,a2,a3,a4,D],∀W,Calls prog 31 #[.int .u64 a,.int .i64 ((8:Nat):Int),.bool false] W λe w'=>∃g c,e=.returned (.slice (some ⟨g,0,none⟩) 8 c)/\w'.ownsRow W.heap.size TB 1 (.slice (some ⟨g,0,none⟩) 8 c) 8 (Zl (leB 8 a))/\Below W.heap.size W w'):=λa hm W=>QA a 8 (by simp only[abb,ahd,arc] at hm;rcases hm with rfl|rfl|rfl|rfl|rfl|rfl<;>assumption) jD W
 have wn:IntKind.u64.wrap (num:Int)=(num:Int):=by rw[IntKind.wrap_u64];omega
 have wa:IntKind.u64.wrap (C:Int)=(C:Int):=by rw[IntKind.wrap_u64];omega
 obtain⟨cs,hcs⟩:∃cs:Array Value,#[.int .u32 num,.int .u32 C,.int .u64 ptr,.int .u64 a0,.int .u64 a1,.int .u64 a2,.int .u64 a3,.int .u64 a4,.int .u64 D]=cs:=⟨_,rfl⟩;have HX:Hid (Z7 (w.alloc (.cells #[.int .u32 num,.int .u32 C,.int .u64 ptr,.int .u64 a0,.int .u64 a1,.int .u64 a2,.int .u64 a3,.int .u64 a4,.int .u64 D] ND)) w.heap.size ND cs):=by rw[<-hcs];exact Z7.new w _ _
 have HC:Hid (∀W,Z7 W w.heap.size ND cs->W.cell? ⟨w.heap.size,0,none⟩=some (.int .u32 num)/\W.cell? ⟨w.heap.size,1,none⟩=some (.int .u32 C)/\W.cell? ⟨w.heap.size,2,none⟩=some (.int .u64 ptr)/\∀i,i<6->∃a:Nat,[a0,a1,a2,a3,a4,D][i]? =some a/\W.cell? ⟨w.heap.size,3+i,none⟩=some (.int .u64 a)):=λW I=>by
  subst hcs;refine⟨I.cell 0,I.cell 1,I.cell 2,λi hi=> ?_⟩;rcases (show i=0\/i=1\/i=2\/i=3\/i=4\/i=5 from jO) with rfl|rfl|rfl|rfl|rfl|rfl;·exact⟨a0,rfl,I.cell 3⟩
  ·exact⟨a1,rfl,I.cell 4⟩
  ·exact⟨a2,rfl,I.cell 5⟩
  ·exact⟨a3,rfl,I.cell 6⟩
  ·exact⟨a4,rfl,I.cell 7⟩
  ·exact⟨D,rfl,I.cell 8⟩
 have HB:=aT ((aG w.heap.size w).alloc (aR _) (.cells #[.int .u32 num,.int .u32 C,.int .u64 ptr,.int .u64 a0,.int .u64 a1,.int .u64 a2,.int .u64 a3,.int .u64 a4,.int .u64 D] ND));clear hcs hn ha hp h0 h1 h2 h3 h4 h5;go_enter func13,ntmps13;go_upto_region 1 with fail;generalize w.alloc (.cells #[.int .u32 num,.int .u32 C,.int .u64 ptr,.int .u64 a0,.int .u64 a1,.int .u64 a2,.int .u64 a3,.int .u64 a4,.int .u64 D] ND)=w1 at*;obtain⟨s,hs⟩:=jX w.heap.size;have HSs:=aT hs;rw[hs] at HX HC HB ⊢;clear hs;have yE:s<w1.heap.size:=HX.lt;have HD:Hid (∀W,Below w1.heap.size w1 W->W.cell? ⟨s,0,none⟩=some (.int .u32 num)/\W.cell? ⟨s,1,none⟩=some (.int .u32 C)):=λW I=>by have h:=HC W (HX.below I yE);exact⟨h.1,h.2.1⟩
 have kd:Below w1.heap.size w1 w1.drew:=(aG _ w1).drew
 go_region_held_law (λw'=>w'.cell? ⟨s,0,none⟩=some (.int .u32 num)/\w'.cell? ⟨s,1,none⟩=some (.int .u32 C)) (first|exact HD _ (by first|(with_reducible assumption)|(with_reducible exact kd))|exact⟨(HC _ Z.box).1,(HC _ Z.box).2.1⟩) (first
  |(have hh:=Iu;clear hh;go_at_call 31;refine(Uj _).mono ?_;rintro e w3 ⟨g3,c3,rfl,r3,hb3⟩;have k3:Below w1.heap.size w1 w3:=k2.trans (hb3.mono k2.size);have Jm:=aT r3;have T:=aT (ZC Iu hb3);have hs3:s+1<=w3.heap.size:=(by have:=k3.size;omega);clear r3)
  |(go_at_call 31;go_loud (refine(Oi _).mono ?_;rintro e w2 ⟨g2,c2,rfl,r2,hb2⟩;have k2:Below w1.heap.size w1 w2:=kd.trans hb2;have Iu:=aT (Y7 r2 (show s+1<=w1.heap.size from jO));have hs2:s+1<=w2.heap.size:=(by have:=k2.size;omega);clear r2))
  |(refine step_append_lies _ rfl _ _ 42 rfl (s+1) TB i0 (.int .u8 0) 1 1 underlying42 hi hz0 hz1 hz2 rfl jD (.slice (some ⟨g2,0,none⟩) 4 c2) 4 (Zl (leB 4 num)) rfl T ⟨g3,0,none⟩ 4 c3 (Zl (leB 4 C)) rfl (by rw[OI,Yr]) (Jm.cells rfl) (MO _) jD (by unfold maxLen;omega) jO hs3 _ rfl ?_;intro gb cap w4 J hg4 aD2 am9;have Z:Hid (NC s w cs (.slice (some ⟨gb,0,none⟩) (4+4) cap) (leB 4 num++leB 4 C) (4+4) w4):=NC.more ⟨HX.below k3 yE,T,HB.trans (k3.mono (acf yE))⟩ hg4 J;clear J hg4 aD2))
 all_goals (
  clear HD Oi Uj Iu Jm T HX HB;obtain⟨_,_,z2,_⟩:=HC _ Z.box
  go_wp2_with (first
   |(go_at_call 31;refine(Gg _).mono ?_;rintro e w5 ⟨g5,c5,rfl,r5,Da⟩;have tG:=aT r5;have dt:=aT (Z.to Da);have hs5:s+1<=w5.heap.size:=dt.box.lt;clear r5 Da Z)
   |(at_builtin;refine aea _ rfl _ _ 42 rfl (s+1) TB i0 (.int .u8 0) 1 1 underlying42 hi hz0 hz1 hz2 rfl jD _ (4+4) _ rfl dt.row ⟨g5,0,none⟩ 8 c5 (Zl (leB 8 ptr)) rfl ?c1 ?c2 ?c3 ?c4 ?c5 ?c6 ?_;(case c1=>rw[OI,Yr]);(case c2=>exact tG.cells rfl);(case c3=>exact MO _);(case c4=>unfold maxLen;omega);(case c5=>omega);(case c6=>exact hs5);intro v6 w6 U kC _;have om:Hid (NC s w cs v6 (leB 4 num++leB 4 C++leB 8 ptr) 16 w6):=NC.more dt kC U;clear U kC dt tG)))
 clear wn wa;have hH:=hs5;clear hs5 hs2 hs3 k2 k3 hb2 hb3 kd z2
 all_goals (
  go_upto_region 4 with fail;go_loopg [5,6] 7 (λgg v iv wr=>∃i:Nat,i<=6/\6-i<gg/\iv=.int .i64 (i:Int)/\Hid (NC s w cs v (leB 4 num++leB 4 C++leB 8 ptr++UZ ([a0,a1,a2,a3,a4,D].take i)) (16+8*i) wr));case atStart=>exact⟨0,jD,jD,rfl,(by show NC _ _ _ _ _ _ _;simpa [UZ] using om.out)⟩
  case round=>
   obtain⟨i,hi6,Vs,rfl,HR⟩:=hrel;clear om;have wC:=jZ i;by_cases hlt:i<6
   ·have Zd:(i:Int)<6:=by omega
    have Jc:=jW i;obtain⟨a,ha,za⟩:=(HC _ HR.box).2.2.2 i hlt;have HAa:=aT (HAs a (ag ha));have HN:=aT (zR ha);clear ha
    go_wp2_with (first
     |(go_at_call 31;refine(HAa _).mono ?_;rintro e w7 ⟨g7,c7,rfl,r7,TH⟩;have HR7:=aT r7;have gK:=aT (HR.to TH);have iV:s+1<=w7.heap.size:=gK.box.lt;clear r7 TH HR za)
     |(at_builtin;refine aea _ rfl _ _ 42 rfl (s+1) TB i0 (.int .u8 0) 1 1 underlying42 hi hz0 hz1 hz2 rfl jD _ (16+8*i) _ rfl gK.row ⟨g7,0,none⟩ 8 c7 (Zl (leB 8 a)) rfl ?c1 ?c2 ?c3 ?c4 ?c5 ?c6 ?_;(case c1=>rw[OI,Yr]);(case c2=>exact HR7.cells rfl);(case c3=>exact MO _);(case c4=>unfold maxLen;omega);(case c5=>omega);(case c6=>exact iV);intro v8 w8 Y Lt _;have fS:Hid (NC s w cs v8 (leB 4 num++leB 4 C++leB 8 ptr++UZ ([a0,a1,a2,a3,a4,D].take (i+1))) (16+8*(i+1)) w8):=(by rw[HN.out,<-aag];exact NC.more gK Lt Y);clear Y Lt gK HR7))
    go_roundg (6-i);case measure=>omega
    case rel=>exact⟨i+1,jO,jO,by go_num,fS⟩
   ·obtain rfl:i=6:=by omega
    have Zd:¬((6:Nat):Int)<6:=jD;have hrow:=HR.row;have HRo:Hid (World.ownsRow wr s TB 1 _ 64 (Zl (Yc num C ptr [a0,a1,a2,a3,a4,D]))):=Y7 hrow (show s<=s+1 from jO);go_wp2_with fail;go_ret;refine⟨_,rfl,?_,?_⟩<;>rw[HSs.out]
    ·exact HRo
    ·exact HR.Zr)
theorem iT(n:Nat):leB 4 n=[n%256,n/256%256,n/256/256%256,n/256/256/256%256]:=rfl
theorem xS(n:Nat):leB 8 n=[n%256,n/256%256,n/256/256%256,n/256/256/256%256,n/256/256/256/256%256,n/256/256/256/256/256%256,n/256/256/256/256/256/256%256,n/256/256/256/256/256/256/256%256]:=rfl
theorem Tv{a b:List Nat}{k:Nat}(h:a.length<=k):Y6 (a++b) k=Y6 b (k-a.length):=by
 unfold Y6;simp only[aee];rw[aad h,aad jO,aad jO,aad jO];rw[show k+1-a.length=k-a.length+1 from jO,show k+2-a.length=k-a.length+2 from jO,show k+3-a.length=k-a.length+3 from jO]
theorem Sl{a b:List Nat}{k:Nat}(h:k+3<a.length):Y6 (a++b) k=Y6 a k:=by
 unfold Y6;simp only[aee];rw[abc jO,abc jO,abc jO,abc h]
theorem GS{n:Nat}(h:n<4294967296):Y6 (leB 4 n) 0=n:=by
 rw[iT];show n%256+256*(n/256%256)+65536*(n/256/256%256)+16777216*(n/256/256/256%256)=n;omega
theorem oh(n:Nat):Y6 (leB 8 n) 0=n%4294967296:=by
 rw[xS];show n%256+256*(n/256%256)+65536*(n/256/256%256)+16777216*(n/256/256/256%256)=n%4294967296;omega
theorem og{n:Nat}(h:n<YN):Y6 (leB 8 n) 4=n/4294967296:=by
 unfold YN at h;rw[xS];show n/256/256/256/256%256+256*(n/256/256/256/256/256%256)+65536*(n/256/256/256/256/256/256%256)+16777216*(n/256/256/256/256/256/256/256%256)=n/4294967296;omega
theorem GR:∀l:List Nat,(UZ l).length=l.length*8
 |[]=>rfl
 |x::l=>by have C:=GR l;unfold UZ at*;rw[ace,ay,Yr,C,ai];omega
theorem Jz:∀(l:List Nat) (i x:Nat),l[i]? =some x->x<YN->Y6 (UZ l) (8*i)=x%4294967296/\Y6 (UZ l) (8*i+4)=x/4294967296
 |[],i,x,h,_=>by simp at h
 |y::l,0,x,h,hx=>by simp only[aM,ahf] at h;subst h;rw[show UZ (y::l)=leB 8 y++UZ l from rfl,Sl (by rw[Yr];omega),Sl (by rw[Yr];omega)];exact⟨oh y,og hx⟩
 |y::l,i+1,x,h,hx=>by rw[aH] at h;have C:=Jz l i x h hx;rw[show UZ (y::l)=leB 8 y++UZ l from rfl,Tv (by rw[Yr];omega),Tv (by rw[Yr];omega),Yr,show 8*(i+1)-8=8*i from jO,show 8*(i+1)+4-8=8*i+4 from jO];exact C
theorem GQ(n a p:Nat)(l:List Nat):(Yc n a p l).length=16+l.length*8:=by
 unfold Yc;rw[ay,ay,ay,Yr,Yr,Yr,GR]
theorem CI(n a p:Nat)(l:List Nat):∀b∈Yc n a p l,b<256:=by
 intro b hb;unfold Yc at hb;rcases abf.1 hb with hb|hb
 ·rcases abf.1 hb with hb|hb
  ·rcases abf.1 hb with hb|hb;·exact JB _ _ b hb
   ·exact JB _ _ b hb
  ·exact JB _ _ b hb
 ·obtain⟨y,_,hy⟩:=aqd.1 hb;exact JB _ _ b hy
theorem um{n:Nat}(a p:Nat)(l:List Nat)(h:n<4294967296):Y6 (Yc n a p l) 0=n:=by
 unfold Yc;rw[aag,aag,Sl (by rw[Yr];omega)];exact GS h
theorem zP(n:Nat){a:Nat}(p:Nat)(l:List Nat)(h:a<4294967296):Y6 (Yc n a p l) 4=a:=by
 unfold Yc;rw[aag,aag,Tv (by rw[Yr];omega),Yr,Sl (by rw[Yr];omega)];exact GS h
theorem uk(n a p:Nat){l:List Nat}{i x:Nat}(h:l[i]? =some x)(hx:x<YN):Y6 (Yc n a p l) (Yv i)=x%4294967296/\Y6 (Yc n a p l) (Y5 i)=x/4294967296:=by
 have hs:=Jz l i x h hx;have hl:(leB 4 n++leB 4 a++leB 8 p).length=16:=by rw[ay,ay,Yr,Yr,Yr]
 unfold Yc Yv Y5;rw[Tv (by rw[hl];omega),Tv (by rw[hl];omega),hl,show 16+8*i-16=8*i from jO,show 16+8*i+4-16=8*i+4 from jO];exact hs
def seen(k x:Nat):Nat:=if k=2 then x%4294967296 else x
theorem zO(n a p k:Nat){l:List Nat}{i x:Nat}(h:l[i]? =some x)(hx:x<YN):WH (Y6 (Yc n a p l)) (decide (k≠2)) i=seen k x:=by
 obtain⟨D,C⟩:=uk n a p h hx;unfold WH seen;rw[D,C];by_cases hk:k=2;·simp[hk]
 ·simp only[hk,ne_eq,not_false_eq_true,decide_true,if_true,if_false];omega
theorem uj(n a p:Nat)(l:List Nat):GG (Y6 (Yc n a p l)):=JX (CI n a p l)
end Go.Proofs.YtclgigmgbebhgaaGreatDoor
namespace Go.Proofs.YtclgigmgbebhgaaGreatDoor.ZJ
open Tryz
open Go Go.Proofs Go.RowKit Go.Sort Go.Shelf
def Xr(W:World):Prop:=Lib.TabIs prog W "internal/strconv.uint64pow10" .u64 Lib.pow10Tab
theorem Xr.below{W W':World}(h:Xr W)(hb:Below W.heap.size W W'):Xr W':=by
 cases C:prog.globalNamed "internal/strconv.uint64pow10" with
 |none=>unfold Xr Lib.TabIs World.var? at h;rw[C] at h;cases h
 |some g=>exact Go.Joins.tab_stays C h hb (aR _)
theorem iR(u:Nat)(hu:100<=u)(C:u<18446744073709551616)(w:World)(J:Xr w):
 Calls prog 333 #[.int .u64 u,.int .i64 10] w λe w'=>e=.returned (.string (Yy u))/\Below w.heap.size w w':=by
 have mI:1<=u:=jO;have aG0:Lib.nDigits u<=20:=by have:=Lib.numDigits_eq u mI C;split at this<;>omega
 have Z:prog.arrayLen 420=24:=by simp[Program.arrayLen,underlying420]
 have yE:∀W,(Instr.sliceAt 420 (.pointer (some ⟨w.heap.size,0,none⟩)) none (some (.int .i64 (Lib.nDigits u:Int))) none).run prog W=.ok (.slice (some ⟨w.heap.size,0,none⟩) (Lib.nDigits u) 24) W:=λW=>by rw[run_sliceAt_array_h W 420 ⟨w.heap.size,0,none⟩ (by simp[Program.arrayLen,Program.elem,underlying420]) .i64 (Lib.nDigits u:Int) jO (by rw[Z];omega)];go_simp
 have Y:=Lib.holds_zero0 w 420 (Lib.nDigits u) jO;have D:=Any.internal_strconv_formatBase10 Tryz.jd w.heap.size 0 24 u (Array.replicate (Lib.nDigits u) 0) (w.alloc (.cells Lib.zeros24 420)) Y (by rw[aue];exact Lib.lt_pow_nDigits u) C (by rw[aue];omega);rw[aue] at D;have T:=Any.internal_strconv_numDigits Tryz.oK u mI C _ (Lib.tabIs_alloc J (.cells Lib.zeros24 420));have HH0:=aT Y;have HN:=aT T;have HF:=aT D;have iu:(100:Int)<=(u:Int):=jO;clear Y Z T D J C;go_enter func333,ntmps333;go_wp2_with fail;refine HN.mono ?_;rintro e w' ⟨rfl,rfl⟩;go_wp2_with fail;refine HF.mono ?_;rintro e w' ⟨rfl,k,v',U,rfl,hF⟩;have hcv:(convert 42 9 (.slice (some ⟨w.heap.size,0,none⟩) (Lib.nDigits u) 24)).run prog ((putRow (λ(b:UInt8)=>Value.int .u8 b.toNat) (w.alloc (.cells Lib.zeros24 420)) w.heap.size 0 U).drewN k)=.ok (.string ⟨(Lib.decDigits u).toArray⟩) ((putRow (λ(b:UInt8)=>Value.int .u8 b.toNat) (w.alloc (.cells Lib.zeros24 420)) w.heap.size 0 U).drewN k):=by
  have h:=run_convert_bytes_back (P:=prog) ((putRow (λ(b:UInt8)=>Value.int .u8 b.toNat) (w.alloc (.cells Lib.zeros24 420)) w.heap.size 0 U).drewN k) 42 9 5 ⟨w.heap.size,0,none⟩ 24 (Lib.decDigits u) underlying42 underlying5 underlying9 (λj hj=>by rw[Lib.row_is_numeral hF j hj,Lib.add_plain,World.cell?_drewN];exact cell?_putRow (λ(b:UInt8)=>Value.int .u8 b.toNat) _ w.heap.size 0 _ U HH0 (by rw[hF.size,aue]) j (by rw[hF.size];rw[Lib.decDigits_length] at hj;exact hj))
  rw[Lib.decDigits_length] at h;exact h
 obtain⟨os,eo⟩:=Lib.fin_at w (.cells Lib.zeros24 420) U k 0;have I:Below w.heap.size w ((putRow (λ(b:UInt8)=>Value.int .u8 b.toNat) (w.alloc (.cells Lib.zeros24 420)) w.heap.size 0 U).drewN k):=by rw[eo];exact Lib.below_grow _ w (aR _) k os
 have HX:=aT I;clear eo HH0 hF I HN HF;generalize (putRow (λ(b:UInt8)=>Value.int .u8 b.toNat) (w.alloc (.cells Lib.zeros24 420)) w.heap.size 0 U).drewN k=W2 at*;go_wp2;go_ret;exact⟨rfl,HX⟩
theorem ui(u:Nat)(hu:u<100)(w:World):
 Calls prog 333 #[.int .u64 u,.int .i64 10] w λe w'=>e=.returned (.string (Yy u))/\Below w.heap.size w w':=by
 have D:(u:Int)<100:=jO;have hs:=λW=>Any.internal_strconv_small Tryz.je u hu W
 have C:=aT hs;clear hs;go_enter func333,ntmps333;go_wp2_with fail;refine(C _).mono ?_;rintro e w' ⟨rfl,rfl⟩;go_wp2;go_ret;exact⟨rfl,aG _ _⟩
theorem iQ(u:Nat)(D:u<18446744073709551616)(w:World)(C:Xr w):
 Calls prog 333 #[.int .u64 u,.int .i64 10] w λe w'=>e=.returned (.string (Yy u))/\Below w.heap.size w w':=by
 by_cases h:u<100;·exact ui u h w
 ·exact iR u jO D w C
theorem ad2(u:Nat)(D:u<18446744073709551616)(w:World)(C:Xr w):
 Calls prog 272 #[.int .u64 u,.int .i64 10] w λe w'=>e=.returned (.string (Yy u))/\Below w.heap.size w w':=by
 have I:=aT (iQ u D w C);go_enter func272,ntmps272;go_wp2_with fail;refine I.mono ?_;rintro e w' ⟨rfl,hb⟩;go_wp2;go_ret;exact⟨rfl,hb⟩
theorem T7(u:Nat)(D:u<18446744073709551616)(w:World)(C:Xr w):
 Calls prog 211 #[.int .u64 u] w λe w'=>e=.returned (.string (Yy u))/\Below w.heap.size w w':=by
 have I:=aT (ad2 u D w C);go_enter func211,ntmps211;go_wp2_with fail;refine I.mono ?_;rintro e w' ⟨rfl,hb⟩;go_wp2;go_ret;exact⟨rfl,hb⟩
theorem FD(i:Nat)(hi:i<100)(w:World):Calls prog 210 #[.int .i64 i] w λe w'=>e=.returned (.string (Yy i))/\Below w.heap.size w w':=by
 refine(Any.strconv_Itoa_small Tryz.jg i hi w).mono ?_;rintro e w' ⟨rfl,rfl⟩;exact⟨rfl,aG _ _⟩
end Go.Proofs.YtclgigmgbebhgaaGreatDoor.ZJ
namespace Go.Proofs.YtclgigmgbebhgaaGreatDoor.ZJ
open Tryz
open Go Go.Proofs Go.RowKit Go.Shelf
variable {xs:List Value} {w:World}
theorem CH:Builder.Extra prog Tryz.LJ where
 sizeBuilder:=jK
 liesBuilder:=jK
 t5:=underlying5
 a5:=isAgg5
 z5:=sizeOf5
 v5:=zeroValue5
 infoByte:=jK
 cellsByte:=jK
 sizeByte:=jK
 neB5:=jD
theorem MN(bk c:Nat)(xs:List ByteArray)(C:ByteArray)(w:World)(D:∀(j:Nat) x,xs[j]? =some x->w.cell? ⟨bk,0+j,none⟩=some (.string x))(J:bk<w.heap.size)(hN:xs.length<=140737488355328)(I:xs.length<=c)
 (hlen:(Lib.join (xs.map (·.data.toList)) C.data.toList).length<=140737488355328):
 Calls prog 133 #[.slice (some ⟨bk,0,none⟩) xs.length c,.string C] w λe w'=>e=.returned (.string ⟨(Lib.join (xs.map (·.data.toList)) C.data.toList).toArray⟩)/\Below w.heap.size w w':=
 Any.strings_Join Tryz.yg CH bk 0 c xs C w D J hN I hlen
theorem FC:(prog.info? 9).map (λi=>(i.zero,i.size,i.bytes))=some (some (.string ⟨#[]⟩),1,16):=jK
theorem MM{W W':World}{B e size n:Nat}{v:Value} (h:W.ownsRow B e size v n xs)(hb:Below W.heap.size W W'):W'.ownsRow B e size v n xs:=by
 refine⟨h.1,?_⟩;rcases h.2 with J|⟨g,cap,C,hv,I,D,rest⟩;·exact .inl J
 ·exact .inr ⟨g,cap,C,hv,I,(hb.block g (aac.1 D).1).trans D,rest⟩
theorem iO {B n:Nat}{t:TypeId}(xs:List Value)(hn:xs.length=n)(C:B<=w.heap.size)(D:0<n)(hlen:n<=1000):(w.alloc (.cells xs.toArray t)).ownsRow B t 1 (.slice (some ⟨w.heap.size,0,none⟩) n n) n xs:=by
 subst hn;exact⟨jS,.inr ⟨w.heap.size,xs.length,xs.toArray,rfl,C,arb w _,aR _,by unfold maxLen;omega,jS,jS⟩⟩
theorem MK(w:World)(xs:List Value)(t:TypeId):∀j u,xs[j]? =some u->(w.alloc (.cells xs.toArray t)).cell? ((⟨w.heap.size,0,none⟩:Addr).add j)=some u:=by
 intro j u hu;have:=(Z7.new w t xs.toArray).cell j;rw[Addr.add_lit,ade,this,au,hu]
theorem GP {B t n g c:Nat} (h:w.ownsRow B t 1 (.slice (some ⟨g,0,none⟩) n c) n xs):g<w.heap.size/\n<=c:=by
 rcases h.2 with⟨h,_⟩|⟨_,_,_,h,_,C,hc,_⟩
 ·cases h
 ·cases h;exact⟨(aac.1 C).1,hc⟩
theorem FA(a k m v:Nat)(ha:a<=5)(hk:k<7)(hm:m<18446744073709551616)(hv:v<18446744073709551616)(h0:k=6\/m=0)(w:World)(hp:Xr w):
 Calls prog 131 #[.agg #[.int .i64 a,.int .i64 ((k:Int)+1),.int .u64 m,.int .u64 v]] w λe w'=>e=.returned (.string (W6 a ((k:Int)+1) m v))/\Below w.heap.size w w':=by
 obtain⟨K,hKk⟩:∃K:Int,(k:Int)+1=K:=⟨_,rfl⟩;rw[hKk];have hR:Yf (a:Int) K (m:Int)=true:=acb ⟨jO,jO,jO,jO,jO⟩;have HR:=aT (λW=>X0 (a:Int) K (m:Int) (v:Int) W);rw[hR] at HR;have hA:=Z7.new w 68 #[.int .i64 a,.int .i64 K,.int .u64 m,.int .u64 v];have hb:=(aG w.heap.size w).alloc (aR _) (.cells #[.int .i64 a,.int .i64 K,.int .u64 m,.int .u64 v] 68);have c0:=hA.cell 0;have c1:=hA.cell 1;have c2:=hA.cell 2;have c3:=hA.cell 3;simp only[au,aM,aH] at c0 c1 c2 c3;have HA:=aT hA;have HB:=aT hb;have HP:=aT hp;have HM:=aT hm;have HV:=aT hv;have HM0:=aT h0;have HK:=aT hKk;clear hA hb hp hm hv h0 hR;go_enter func131,ntmps131;go_wp2_with fail;refine(HR _).mono ?_;rintro e w2 ⟨rfl,hb2⟩;have T:=oL HA hb2;have XX:=an9 HB hb2;have Gn:=aT (HP.below XX);clear hb2 HA HB HP HR c0 c1 c2 c3;go_upto_region 3 with fail;have c0:=T.cell 0;have c1:=T.cell 1;simp only[au,aM,aH] at c0 c1;have wk:IntKind.i64.wrap (K-1)=(k:Int):=by rw[aJ _ jO];omega
 have wk2:IntKind.i64.wrap (k:Int)=(k:Int):=aJ _ jO;have k0:=jZ k;have k7:(k:Int)<7:=jO;have aD3:¬9223372036854775807<1+(Yy a).size:=by rw[NG a ha];decide
 have hIt:=aT (λW=>FD a jO W);refine aua ?_;refine akg (S:=λw'=>(w'.cell? ⟨w.heap.size,0,none⟩=some (.int .i64 a)/\w'.cell? ⟨w.heap.size,1,none⟩=some (.int .i64 K))/\Below w2.heap.size w2 w') jK (by first|exact⟨⟨c0,c1⟩,(aG _ w2).drew⟩|go_keep) (λhHeld=> ?_);refine jT 0 ⟨some 7,.fieldAddr 68 (.tmp 1) 0,0,"cond.go:65",#[],none⟩ ?_;try simp only[Act.put,aS,aP,aQ]
 refine jT 1 ⟨some 8,.load 3 (.tmp 7),3,"cond.go:65",#[⟨0,.data⟩],none⟩ ?_;try simp only[Act.put,aS,aP,aQ]
 refine jT 5 ⟨some 12,.fieldAddr 68 (.tmp 1) 1,0,"cond.go:65",#[],none⟩ ?_;try simp only[Act.put,aS,aP,aQ]
 refine jT 6 ⟨some 13,.load 3 (.tmp 12),3,"cond.go:65",#[⟨5,.data⟩],none⟩ ?_;try simp only[Act.put,aS,aP,aQ]
 refine jT 7 ⟨some 14,.binOp .sub 3 (.tmp 13) (.const (.int .i64 1)) 3,3,"cond.go:65",#[⟨6,.data⟩],none⟩ ?_;try simp only[Act.put,aS,aP,aQ]
 refine aba (rs:=[2]) jK jS ?_;refine ae (o:=⟨some 9,.call {callee:=.value (.func 210),args:=#[.tmp 8],argTypes:=#[3]},9,"cond.go:65",#[⟨1,.data⟩],none⟩) rfl (λK' hK=> ?_) aae;go_simp;refine(hIt _).mono ?_;rintro e wx ⟨rfl,Y⟩;refine hK _ _ (⟨⟨Xs Y hHeld.1.1,Xs Y hHeld.1.2⟩,hHeld.2.trans (Y.mono hHeld.2.size)⟩) (λhHeld=> ?_);clear hK K';try simp only[Act.put,aS,aP,aQ]
 refine awc (i:=3) (oi:=⟨some 10,.binOp .add 9 (.const (.string {data:=#[97]})) (.tmp 9) 9,9,"cond.go:65",#[⟨2,.data⟩],none⟩) (v:=(.string (⟨#[97]⟩++Yy a))) rfl jK jK jK (λ_ _ _ h=>h) (Or.inl ⟨jR,?hy3⟩) jA ?an2
 case hy3=>
  intro w hSw;try dsimp only at hSw
  try obtain⟨hSw,aK9⟩:=hSw
  try go_split_ands
  go_simp;try with_reducible rfl
 try simp only[Act.put,aS,aP,aQ]
 clear Y;refine aba (rs:=[4]) jK jS ?_;refine ae (o:=⟨some 11,.call {callee:=.value (.func 33),args:=#[],argTypes:=#[]},105,"cond.go:65",#[⟨2,.chain⟩],none⟩) rfl (λK' hK=> ?_) aae;go_simp;refine(oH _).mono ?_;rintro e wy ⟨g,rfl,hg,Y⟩;have hop:=ac5 hg k hk;rw[HK.out] at hop;refine hK _ _ (⟨⟨Xs Y hHeld.1.1,Xs Y hHeld.1.2⟩,hHeld.2.trans (Y.mono hHeld.2.size)⟩) (λhHeld=> ?_);clear hK K';try simp only[Act.put,aS,aP,aQ]
 refine Ua (S':=λw'=>((w'.cell? ⟨w.heap.size,0,none⟩=some (.int .i64 a)/\w'.cell? ⟨w.heap.size,1,none⟩=some (.int .i64 K))/\Below w2.heap.size w2 w')/\w'.cell? ⟨g,k*2,none⟩=some (.string (X2 K))) (λ_ h=>h.1) _ _ _ _ ?_;have D:(λw':World=>((w'.cell? ⟨w.heap.size,0,none⟩=some (.int .i64 a)/\w'.cell? ⟨w.heap.size,1,none⟩=some (.int .i64 K))/\Below w2.heap.size w2 w')/\w'.cell? ⟨g,k*2,none⟩=some (.string (X2 K))) wy:=⟨hHeld,hop.1⟩;clear hHeld Y hop hg;refine jT 8 ⟨some 15,.indexAddr 105 (.tmp 11) (.tmp 14),0,"cond.go:65",#[⟨4,.data⟩,⟨7,.data⟩],none⟩ ?_;try simp only[Act.put,aS,aP,aQ]
 refine jT 9 ⟨some 16,.fieldAddr 104 (.tmp 15) 0,0,"cond.go:65",#[⟨8,.data⟩],none⟩ ?_;try simp only[Act.put,aS,aP,aQ]
 refine jT 10 ⟨some 17,.load 9 (.tmp 16),9,"cond.go:65",#[⟨9,.data⟩],none⟩ ?_;try simp only[Act.put,aS,aP,aQ]
 refine aba (rs:=[11]) jK jS ?_;refine ae (o:=⟨some 18,.buildSlice 195 2 #[(0,.tmp 10),(1,.tmp 17)],195,"cond.go:65",#[⟨3,.data⟩,⟨10,.data⟩],none⟩) rfl (λK' hK=> ?_) aae;go_simp;refine hK _ _ ⟨⟨⟨Xs ((aG _ wy).alloc (aR _) _) D.1.1.1,Xs ((aG _ wy).alloc (aR _) _) D.1.1.2⟩,D.1.2.alloc D.1.2.size _⟩,Xs ((aG _ wy).alloc (aR _) _) D.2⟩ (λod=> ?_);clear hK K';try simp only[Act.put,aS,aP,aQ]
 refine jT 12 ⟨some 3,.assign (.tmp 18),195,"cond.go:65",#[⟨11,.data⟩,⟨4,.chain⟩,⟨0,.phase⟩,⟨1,.phase⟩,⟨2,.phase⟩,⟨3,.phase⟩,⟨4,.phase⟩,⟨5,.phase⟩,⟨6,.phase⟩,⟨7,.phase⟩,⟨8,.phase⟩,⟨9,.phase⟩,⟨10,.phase⟩,⟨11,.phase⟩],none⟩ ?_;try simp only[Act.put,aS,aP,aQ]
 refine ana jK ?_ _;refine ase ?_;have J:=aT od.1.2;have hO3:((wy.alloc (.cells #[.string (⟨#[97]⟩++Yy a),.string (X2 K)] 9)).ownsRow w2.heap.size 9 1 (.slice (some ⟨wy.heap.size,0,none⟩) 2 2) 2 [.string (⟨#[97]⟩++Yy a),.string (X2 K)]):=iO (n:=2) [.string (⟨#[97]⟩++Yy a),.string (X2 K)] rfl D.1.2.size jD jD;have tM:=aT hO3;clear od D c0 c1 hIt aD3 wk wk2 hO3;generalize wy.alloc (.cells #[.string (⟨#[97]⟩++Yy a),.string (X2 K)] 9)=W3 at*;generalize wy.heap.size=N at*;obtain⟨i0,hi,hz0,hz1,hz2⟩:=info_parts FC;have c1:=(T.below J T.lt).cell 1;simp only[au,aM,aH] at c1;by_cases h7:K=7
 ·subst h7;have c2:=(T.below J T.lt).cell 2;simp only[au,aM,aH] at c2;have hd:=aT (T7 m HM W3 (Gn.below J));clear hKk;go_wp2_with fail;refine hd.mono ?_;rintro e w4 ⟨rfl,hb4⟩;have HX5:=aT ((J.trans (hb4.mono J.size)).alloc (J.trans (hb4.mono J.size)).size (.cells #[.string (Yy m),.string ⟨#[61,61]⟩] 9));have HO5:=aT ((MM tM hb4).alloc (.cells #[.string (Yy m),.string ⟨#[61,61]⟩] 9));clear hb4 hd J tM c1 c2
  go_wp2_with (at_builtin;refine aea _ rfl _ _ 195 rfl w2.heap.size 9 i0 (.string ⟨#[]⟩) 1 16 underlying195 hi hz0 hz1 hz2 rfl jD _ 2 _ rfl HO5 ⟨w4.heap.size,0,none⟩ 2 2 [.string (Yy m),.string ⟨#[61,61]⟩] rfl rfl ?ma2 ?ma3 ?ma4 ?ma5 ?ma6 ?_;(case ma2=>exact MK _ _ _);(case ma3=>simp[Value.oneCell']);(case ma4=>unfold maxLen;omega);(case ma5=>omega);(case ma6=>exact HX5.size);intro v' w6 C I _;obtain⟨g6,c6,rfl⟩:=ownsRow_succ C;have Nv:=aT (HX5.grown I HX5.size (λk e=>(HO5.lt k e).1));have c3:=(T.below Nv T.lt).cell 3;simp only[au,aM,aH] at c3)
  have ez:Hid (w6.ownsRow w2.heap.size 9 1 (.slice (some ⟨g6,0,none⟩) 4 c6) 4 [.string (⟨#[97]⟩++Yy a),.string (X2 7),.string (Yy m),.string ⟨#[61,61]⟩]):=C;clear C I HX5 HO5;have hd:=aT (T7 v HV w6 (Gn.below Nv));go_wp2_with fail;refine hd.mono ?_;rintro e w7 ⟨rfl,Z⟩;have U:=aT ((Nv.trans (Z.mono Nv.size)).alloc (Nv.trans (Z.mono Nv.size)).size (.cells #[.string (Yy v)] 9));have Ic:=aT ((MM ez Z).alloc (.cells #[.string (Yy v)] 9));clear Z c3 hd Nv ez
  go_wp2_with (at_builtin;refine aea _ rfl _ _ 195 rfl w2.heap.size 9 i0 (.string ⟨#[]⟩) 1 16 underlying195 hi hz0 hz1 hz2 rfl jD _ 4 _ rfl Ic ⟨w7.heap.size,0,none⟩ 1 1 [.string (Yy v)] rfl rfl ?mb2 ?mb3 ?mb4 ?mb5 ?mb6 ?_;(case mb2=>exact MK _ _ _);(case mb3=>simp[Value.oneCell']);(case mb4=>unfold maxLen;omega);(case mb5=>omega);(case mb6=>exact U.size);intro v' w9 C I _;obtain⟨g9,c9,rfl⟩:=ownsRow_succ C)
  have HX9:=aT (U.grown I U.size (λk e=>(Ic.lt k e).1));obtain⟨kS,mR⟩:=GP C;have hcw:WL a 7 m v=[⟨#[97]⟩++Yy a,X2 7,Yy m,⟨#[61,61]⟩,Yy v]:=by unfold WL;rw[aF rfl]
  have hjo:=MN g9 c9 [⟨#[97]⟩++Yy a,X2 7,Yy m,⟨#[61,61]⟩,Yy v] ⟨#[32]⟩ w9 (λj x hx=>by
   have hj:=(ak.1 hx).1;rw[ade,C.cellAt j (by simp at hj;omega)];show(List.map Value.string [⟨#[97]⟩++Yy a,X2 7,Yy m,⟨#[61,61]⟩,Yy v])[j]? =_;rw[acd,hx];rfl) kS (by show 5<=_;decide) mR (by have:=MP a 7 m v ha HM HV;unfold W6 at this;rw[hcw] at this;have h2:((Lib.join (List.map (λx:ByteArray=>x.data.toList) [⟨#[97]⟩++Yy a,X2 7,Yy m,⟨#[61,61]⟩,Yy v]) [32]).toArray).size<=60:=this;rw[aic] at h2;exact aO h2 jD)
  have nZ:Calls prog 133 #[.slice (some ⟨g9,0,none⟩) 5 c9,.string ⟨#[32]⟩] w9 λe w'=>e=.returned (.string (W6 a 7 m v))/\Below w9.heap.size w9 w':=by unfold W6;rw[hcw];exact hjo
  have HJ:=aT nZ;clear hjo nZ hcw C I Ic U;go_wp2_with fail;refine HJ.mono ?_;rintro e wf ⟨rfl,hbf⟩;go_wp2;go_ret;exact⟨rfl,XX.trans ((HX9.trans (hbf.mono HX9.size)).mono XX.size)⟩
 ·have hq7:(K == 7)=false:=by simpa using h7
  go_upto_region 6 with fail;clear c1;have c3:=(T.below J T.lt).cell 3;simp only[au,aM,aH] at c3;have hd:=aT (T7 v HV W3 (Gn.below J));go_wp2_with fail;refine hd.mono ?_;rintro e w7 ⟨rfl,Z⟩;have U:=aT ((J.trans (Z.mono J.size)).alloc (J.trans (Z.mono J.size)).size (.cells #[.string (Yy v)] 9));have Ic:=aT ((MM tM Z).alloc (.cells #[.string (Yy v)] 9));clear Z c3 hd J tM
  go_wp2_with (at_builtin;refine aea _ rfl _ _ 195 rfl w2.heap.size 9 i0 (.string ⟨#[]⟩) 1 16 underlying195 hi hz0 hz1 hz2 rfl jD _ 2 _ rfl Ic ⟨w7.heap.size,0,none⟩ 1 1 [.string (Yy v)] rfl rfl ?mc2 ?mc3 ?mc4 ?mc5 ?mc6 ?_;(case mc2=>exact MK _ _ _);(case mc3=>simp[Value.oneCell']);(case mc4=>unfold maxLen;omega);(case mc5=>omega);(case mc6=>exact U.size);intro v' w9 C I _;obtain⟨g9,c9,rfl⟩:=ownsRow_succ C)
  have HX9:=aT (U.grown I U.size (λk e=>(Ic.lt k e).1));obtain⟨kS,mR⟩:=GP C;have hcw:WL a K m v=[⟨#[97]⟩++Yy a,X2 K,Yy v]:=by unfold WL;rw[aN h7]
  have hjo:=MN g9 c9 [⟨#[97]⟩++Yy a,X2 K,Yy v] ⟨#[32]⟩ w9 (λj x hx=>by
   have hj:=(ak.1 hx).1;rw[ade,C.cellAt j (by simp at hj;omega)];show(List.map Value.string [⟨#[97]⟩++Yy a,X2 K,Yy v])[j]? =_;rw[acd,hx];rfl) kS (by show 3<=_;decide) mR (by have:=MP a K m v ha HM HV;unfold W6 at this;rw[hcw] at this;have h2:((Lib.join (List.map (λx:ByteArray=>x.data.toList) [⟨#[97]⟩++Yy a,X2 K,Yy v]) [32]).toArray).size<=60:=this;rw[aic] at h2;exact aO h2 jD)
  have nZ:Calls prog 133 #[.slice (some ⟨g9,0,none⟩) 3 c9,.string ⟨#[32]⟩] w9 λe w'=>e=.returned (.string (W6 a K m v))/\Below w9.heap.size w9 w':=by unfold W6;rw[hcw];exact hjo
  have HJ:=aT nZ;clear hjo nZ hcw C I Ic U;go_wp2_with fail;refine HJ.mono ?_;rintro e wf ⟨rfl,hbf⟩;go_wp2;go_ret;exact⟨rfl,XX.trans ((HX9.trans (hbf.mono HX9.size)).mono XX.size)⟩
end Go.Proofs.YtclgigmgbebhgaaGreatDoor.ZJ
namespace Go.Proofs.YtclgigmgbebhgaaGreatDoor
open Tryz
open Go Go.Proofs Go.RowKit Go.Maps Go.WideMaps Go.ChangeMaps Go.Sort Go.Shelf
def GN(c:Z5):ByteArray:=ZJ.W6 c.a (c.o:Int) c.m c.v
def R1(c:Z5):List UInt8:=(GN c).data.toList
theorem CG(c:Z5):encStr (R1 c)=.string (GN c):=rfl
theorem CF:∀(x:List UInt8) (D:List (List UInt8)) (C:List UInt8),x≠[]->Lib.join (x::D) C≠[]
 |x,[],C,h=>by simpa [Lib.join] using h
 |x,y::r,C,h=>by
  intro e;have:Lib.join (x::y::r) C=x++(C++Lib.join (y::r) C):=by simp[Lib.join]
  rw[this] at e;exact h (List.append_eq_nil_iff.1 e).1
theorem GM{C:Nat}:∀D:List (List UInt8),(∀z∈D,z.length<=C)->(Lib.join D [59]).length<=D.length*(C+1)
 |[],_=>by simp[Lib.join]
 |[x],h=>by
  have:=h x jS;have e:Lib.join [x] [59]=x:=by simp[Lib.join]
  rw[e,ai,acg];omega
 |x::y::r,h=>by
  have I:=GM (y::r) (λz hz=>h z (aff _ hz));have J:=h x jS;have e:Lib.join (x::y::r) [59]=x++59::Lib.join (y::r) [59]:=by simp[Lib.join]
  rw[e,ay,ai,ai,Nat.succ_mul];omega
theorem iN(c:Z5):R1 c≠[]:=by
 have h:∀ws:List (List UInt8),∀d:List UInt8,Lib.join (((97:UInt8)::d)::ws) [32]≠[]:=λws d=>CF _ _ _ jS
 have e:∀a:ByteArray,((⟨#[97]⟩:ByteArray)++a).data.toList=(97:UInt8)::a.data.toList:=λa=>by rw[ByteArray.data_append,Array.toList_append];rfl
 unfold R1 GN ZJ.W6 ZJ.WL;split;·rw[aed,e];exact h _ _
 ·rw[aed,e];exact h _ _
theorem nY{c:Z5}(h:c.right):(R1 c).length<=60:=by
 have:=ZJ.MP c.a (c.o:Int) c.m c.v h.1 h.2.2.2.1 h.2.2.2.2;unfold R1 GN;rw[ane];exact this
theorem nX{c:Z5}(h:c.right)(w:World)(hp:ZJ.Xr w):Calls prog 131 #[.agg #[.int .i64 c.a,.int .i64 c.o,.int .u64 c.m,.int .u64 c.v]] w λe w'=>e=.returned (.string (GN c))/\Below w.heap.size w w':=by
 obtain⟨J,T,C,I,D⟩:=h;have:=ZJ.FA c.a (c.o-1) c.m c.v J jO I D (C.imp (λe=>jO) id) w hp;rw[show((c.o-1:Nat):Int)+1=(c.o:Int) from jO] at this;exact this
theorem CE{α:Type}[Inhabited α][DecidableEq α](d:Array α):Lib.keeps d 0=true:=Lib.keeps_lt_one d 0 jD
theorem LI(zs:List (List UInt8)):(Lib.compact zs).length<=zs.length:=by
 unfold Lib.compact Lib.compactUpTo;rw[aab];refine aO (atc _ _) ?_;rw[afe];exact aR _
theorem Jy{zs:List (List UInt8)}{x:List UInt8}(h:x∈Lib.compact zs):x∈zs:=by
 unfold Lib.compact Lib.compactUpTo at h;obtain⟨j,C,rfl⟩:=ah.1 h;have hl:=aib.1 (Q8 C);have e:zs.toArray[j]! =zs[j]:=by rw[azc _ j (by simpa using hl)];simp
 rw[e];exact List.getElem_mem hl
theorem zN{zs:List (List UInt8)}(h:zs≠[]):Lib.compact zs≠[]:=by
 intro e;unfold Lib.compact Lib.compactUpTo at e;have C:=List.map_eq_nil_iff.1 e;have hl:0<zs.length:=aya.2 h;have:0∈(List.range zs.length).filter (Lib.keeps zs.toArray):=ape.2 ⟨aib.2 hl,CE _⟩;rw[C] at this;cases this
def iM(cs:List Z5)(w:World)(e:Ending)(w':World):Prop:=∃s:ByteArray,e=.returned (.string s)/\(s.size=0↔cs=[])/\s.size<=100000/\Below w.heap.size w w'
theorem nW{cs:List Z5}{K:Nat}(T:cs.length=K)(hl:K<=1000)(hr:∀c∈cs,c.right){zs:List (List UInt8)}(hz:zs.Perm (cs.map R1)):(Lib.join (Lib.compact zs) [59]).length<=61000/\(Lib.join (Lib.compact zs) [59]=[]↔cs=[]):=by
 have I:∀z∈zs,∃c∈cs,R1 c=z:=λz h=>by obtain⟨c,hc,e⟩:=ah.1 (hz.mem_iff.1 h);exact⟨c,hc,e⟩
 have hlen:zs.length=K:=by rw[hz.length_eq,aab,T]
 refine⟨?_,?_,?_⟩;·refine aO (GM (C:=60) _ (λz h=> ?_)) (aO (aud 61 (aO (LI zs) (by omega:zs.length<=1000))) jD);obtain⟨c,hc,rfl⟩:=I z (Jy h);exact nY (hr c hc)
 ·intro e;cases hcs:cs with
  |nil=>rfl
  |cons c r=>
   have J:zs≠[]:=λh=>by rw[h,hcs] at hz;exact absurd hz.length_eq jS
   have hc:=zN J;cases D:Lib.compact zs with
   |nil=>exact absurd D hc
   |cons x y=>
    obtain⟨d,_,rfl⟩:=I x (Jy (by rw[D];simp));rw[D] at e;exact absurd e (CF _ _ _ (iN d))
 ·rintro rfl
  have:zs=[]:=by have:=hz.length_eq;simpa using this
  rw[this];rfl
theorem FC:(prog.info? 9).map (λi=>(i.zero,i.size,i.bytes))=some (some (.string ⟨#[]⟩),1,16):=jK
structure GL(lo:Nat)(cs:List Z5)(w W:World)(v:Value)(m:Nat):Prop where
 Zr:Below lo w W
 row:W.ownsRow lo 9 1 v m (((cs.take m).map R1).map encStr)
 lo:lo<=W.heap.size
theorem GL.bl{lo:Nat}{cs:List Z5}{w W W':World}{v:Value}{m:Nat}(h:GL lo cs w W v m)(hb:Below W.heap.size W W'):GL lo cs w W' v m:=⟨h.Zr.trans (hb.mono h.lo),ZC h.row hb,aO h.lo hb.size⟩
theorem iL{N K:Nat}{ua:Option Addr}{uc:Nat}{cs:List Z5}(hK:cs.length=K)(hl:K<=1000)(hr:∀c∈cs,c.right)(w:World)(hp:ZJ.Xr w)(h:YT N w (.slice ua K uc) cs)(hN:N<=w.heap.size):
 Calls prog 81 #[.slice ua K uc] w (iM cs w):=by
 have HC:Hid (∀(k:Nat) (c:Z5),cs[k]? =some c->∃gu off,ua=some ⟨gu,off,none⟩/\gu<N/\w.cell? ⟨gu,off+k*4,none⟩=some (.int .i64 c.a)/\w.cell? ⟨gu,off+k*4+1,none⟩=some (.int .i64 c.o)/\w.cell? ⟨gu,off+k*4+2,none⟩=some (.int .u64 c.m)/\w.cell? ⟨gu,off+k*4+3,none⟩=some (.int .u64 c.v)):=by obtain⟨a,c,e,h⟩:=h;cases e;exact h
 have HK:=aT hK;have HR:=aT hr;have HP:=aT hp;obtain⟨i0,XS,RH,Vb,Tl⟩:=ZP FC;have Ge:Hid (GL w.heap.size cs w w (.slice none 0 0) 0):=⟨aG _ _,Ya _ _ _ _,aR _⟩;clear h hK hr hp;go_enter func81,ntmps81;go_upto_region 3 with fail;go_loopg [3,8] (K+1) (λgg v iv wr=>∃m:Nat,m<=K/\K-m<gg/\iv=.int .i64 (m:Int)/\Hid (GL w.heap.size cs w wr v m));case atStart=>exact⟨0,abd _,jO,rfl,Ge⟩
 case round=>
  obtain⟨m,zj,Vs,rfl,HA⟩:=hrel;clear Ge;have m0:=jZ m;by_cases hlt:m<K
  ·have Zd:(m:Int)<(K:Int):=by omega
   have iw:=jW m;obtain⟨c,hc⟩:∃c,cs[m]? =some c:=⟨_,aL (by rw[HK.out];exact hlt)⟩;obtain⟨gu,off,rfl,UW,y0,y1,y2,y3⟩:=HC m c hc;have ce:∀j v,w.cell? ⟨gu,j,none⟩=some v->wr.cell? ⟨gu,j,none⟩=some v:=λj v hv=>(HA.Zr.cell (p:=⟨gu,j,none⟩) (adg UW hN)).trans hv
   have y0:=ce _ _ y0;have y1:=ce _ _ y1;have y2:=ce _ _ y2;have y3:=ce _ _ y3;have vY:Hid ((cs.take (m+1)).map R1=(cs.take m).map R1++[R1 c]):=by show _=_;rw[afd,hc,ada];rfl
   have HTx:=aT (λW (hb:Below w.heap.size w W)=>nX (HR c (ag hc)) W (HP.below hb));obtain⟨tx,htx⟩:∃t,GN c=t:=⟨_,rfl⟩;have HTX:=aT htx;rw[htx] at HTx;have Oi:=aT (HA.bl (Yx wr (.cells #[.int .i64 c.a,.int .i64 c.o,.int .u64 c.m,.int .u64 c.v] TC)));have HX1:=aT (Z7.new wr TC #[.int .i64 c.a,.int .i64 c.o,.int .u64 c.m,.int .u64 c.v]);obtain⟨ca,co,cm,cv⟩:=c;dsimp only at y0 y1 y2 y3 HTx Oi HX1;clear ce hc htx HA;go_upto_region 5 with fail;generalize wr.alloc (.cells #[.int .i64 ca,.int .i64 co,.int .u64 cm,.int .u64 cv] TC)=w5 at*;generalize wr.heap.size=T5 at*;clear y0 y1 y2 y3;obtain⟨⟨z0,z1,z2,z3⟩,_⟩:=Z8 HX1
   go_wp2_with (first
    |(go_at_call 131;refine(HTx _ Oi.Zr).mono ?_;rintro e I ⟨rfl,hb6⟩;have U:=aT ((Oi.bl hb6).bl (Yx I (.cells #[.string tx] 9)));have aD4:=U.lo;clear hb6)
    |(at_builtin;refine aea _ rfl _ _ 195 rfl w.heap.size 9 i0 (.string ⟨#[]⟩) 1 16 underlying195 XS RH Vb Tl rfl jD _ m _ rfl U.row ⟨I.heap.size,0,none⟩ 1 1 [.string tx] rfl ?c1 ?c2 ?c3 ?c4 ?c5 ?c6 ?_;(case c1=>rfl);(case c2=>exact YX rfl);(case c3=>simp[Value.oneCell']);(case c4=>unfold maxLen;omega);(case c5=>omega);(case c6=>exact aD4);intro v' w7 Y D _))
   have HA7:Hid (GL w.heap.size cs w w7 v' (m+1)):=by refine⟨U.Zr.grown D U.lo (λk e=>(U.row.lt k e).1),?_,aO U.lo D.size⟩;rw[vY.out,ada,aed,aqb,CG,HTX.out];exact Y
   clear Y D;go_wp2_with fail;go_roundg (K-m);case measure=>omega
   case rel=>exact⟨m+1,jO,jO,by go_num,HA7⟩
  ·obtain rfl:m=K:=by omega
   have Zd:¬(m:Int)<(m:Int):=jO;have J:=HA.row;rw[abe (by rw[HK.out];exact aR _)] at J;rcases J.2 with⟨rfl,hz⟩|⟨gb,cap,cur,rfl,Z,hgb,r1,r2,r3,r4⟩
   ·subst hz;have Fl:Hid (cs=[]):=aod HK;have cS:=λW=>AnyM.slices_Sort_string_none Tryz.sortStr none 0 W
    have cC:=λW=>Any.slices_Compact_string_empty Tryz.yb none 0 W
    have cJ:=λW=>Any.strings_Join_none Tryz.yg ZJ.CH none 0 ⟨#[59]⟩ W
    have HS:=aT cS;have eI:=aT cC;have HJ:=aT cJ;clear J cS cC cJ
    go_wp2_with (first
     |(go_at_call 132;refine(HS _).mono ?_;rintro e I ⟨rfl,rfl⟩)
     |(go_at_call 134;refine(eI _).mono ?_;rintro e I ⟨rfl,rfl⟩)
     |(go_at_call 133;refine(HJ _).mono ?_;rintro e I ⟨rfl,rfl⟩))
    go_ret;exact⟨_,rfl,(by rw[Fl.out];exact⟨λ_=>rfl,λ_=>rfl⟩),jD,HA.Zr⟩
   ·obtain⟨ss,yK⟩:=jX (cs.map R1);have yE:ss.length=m:=by rw[<-yK,aab,HK.out]
    rw[yK] at r4;have hH:Holds encStr wr gb 0 ss.toArray:=holds_of_block hgb (by rw[yE];simpa using r4);have Li:gb<wr.heap.size:=(aac.1 hgb).1;have HS:=aT (AnyM.slices_Sort_string Tryz.sortStr gb 0 cap ss wr hH Li jO);rw[yE] at HS;have hpz:(ss.mergeSort λx y=>decide (x<=y)).Perm ss:=List.mergeSort_perm _ _;obtain⟨zs,hzs⟩:=jX ((ss.mergeSort λx y=>decide (x<=y)));rw[hzs] at HS hpz;have hzl:zs.length=m:=by rw[hpz.length_eq,yE]
    have HKZ:=aT (nW (zs:=zs) HK hl HR (by rw[yK];exact hpz));have cM:Hid (∀n os,Holds encStr (grow (putRow encStr (Sort.ahead wr n) gb 0 zs.toArray) os) gb 0 zs.toArray/\Below w.heap.size w (grow (putRow encStr (Sort.ahead wr n) gb 0 zs.toArray) os)/\gb<(grow (putRow encStr (Sort.ahead wr n) gb 0 zs.toArray) os).heap.size):=λn os=>by have g1:=grownBy_sorted (w:=wr) (g:=gb) (n:=n) (os:=os) zs.toArray;refine⟨holds_grow _ _ _ _ _ _ (by simpa using Li) (holds_putRow _ _ _ _ ss.toArray _ (holds_ahead _ _ _ _ _ _ hH) (by simp[hzl,yE])),HA.Zr.grown g1 HA.lo (λk e=>by cases e;exact Z),adg Li g1.size⟩
    clear hH J r4 yK hzs hpz hgb r3;have Ny:=LI zs;obtain⟨C,hcz⟩:=jX (Lib.compact zs);rw[hcz] at HKZ Ny;have HCZ:=aT hcz;clear hcz;go_wp2_with fail;refine HS.mono ?_;rintro e I ⟨rfl,n6,os6,rfl⟩;obtain⟨aU,hB6,kC⟩:=cM n6 os6;generalize grow (putRow encStr (Sort.ahead wr n6) gb 0 zs.toArray) os6=I at*;have fT:=aT aU;have eI:=aT (Any.slices_Compact_string Tryz.yb gb 0 cap zs I aU jO jO);rw[hzl,HCZ.out] at eI;have Ck:=aT hB6;clear aU hB6;go_wp2_with fail;refine eI.mono ?_;rintro e w7 ⟨rfl,q7,rfl⟩;have hH7:Holds encStr (putRow encStr (Sort.ahead I q7) gb 0 (C++List.replicate (m-C.length) []).toArray) gb 0 (C++List.replicate (m-C.length) []).toArray:=holds_putRow _ _ _ _ zs.toArray _ (holds_ahead _ _ _ _ _ _ fT) (by simp;omega);have hB7:Below w.heap.size w (putRow encStr (Sort.ahead I q7) gb 0 (C++List.replicate (m-C.length) []).toArray):=by have g1:=grownBy_sorted (w:=I) (g:=gb) (n:=q7) (os:=#[]) (C++List.replicate (m-C.length) []).toArray;rw[grow_empty] at g1;exact Ck.grown g1 Ck.size (λk e=>by cases e;exact Z)
    have hg7:gb<(putRow encStr (Sort.ahead I q7) gb 0 (C++List.replicate (m-C.length) []).toArray).heap.size:=by have g1:=grownBy_sorted (w:=I) (g:=gb) (n:=q7) (os:=#[]) (C++List.replicate (m-C.length) []).toArray;rw[grow_empty] at g1;exact adg kC g1.size
    have T:∀(j:Nat) x,(C.map (λl:List UInt8=>(⟨l.toArray⟩:ByteArray)))[j]? =some x->(putRow encStr (Sort.ahead I q7) gb 0 (C++List.replicate (m-C.length) []).toArray).cell? ⟨gb,0+j,none⟩=some (.string x):=λj x hx=>by rw[acd] at hx;obtain⟨l,hl,rfl⟩:=Option.map_eq_some_iff.1 hx;have hj:=(ak.1 hl).1;have h:=(hH7 j (by simp;omega)).1;rw[h,azc _ j (by simp;omega)];simp only[List.getElem_toArray];rw[List.getElem_append_left hj,(ak.1 hl).2]
    generalize putRow encStr (Sort.ahead I q7) gb 0 (C++List.replicate (m-C.length) []).toArray=w7 at*;have Jj:(C.map (λl:List UInt8=>(⟨l.toArray⟩:ByteArray))).map (·.data.toList)=C:=by rw[akd];exact List.map_id'' (λl=>jS) _
    have HJ:=aT (ZJ.MN gb cap (C.map (λl:List UInt8=>(⟨l.toArray⟩:ByteArray))) ⟨#[59]⟩ w7 T hg7 (by rw[aab];omega) (by rw[aab];omega) (by rw[Jj];exact aO HKZ.1 jD));rw[Jj,aab] at HJ;have Od:=aT hB7;clear hH7 hB7 hg7 T Jj;go_wp2_with fail;refine HJ.mono ?_;rintro e w8 ⟨rfl,hb8⟩;go_wp2_with fail;go_ret;refine⟨_,rfl,?_,?_,Od.trans (hb8.mono Od.size)⟩
    ·rw[<-HKZ.out.2];constructor;·intro e;exact aod e
     ·intro e;show(Lib.join C [59]).length=0;rw[e];try rfl
    ·exact aO HKZ.1 jD
end Go.Proofs.YtclgigmgbebhgaaGreatDoor
namespace Go.Proofs.YtclgigmgbebhgaaGreatDoor
open Tryz
open Go Go.Proofs Go.RowKit Go.Maps Go.WideMaps Go.ChangeMaps
variable {ks:List ByteArray} {q N K BR:Nat}
def Xi(c:Z5):Bool:=decide (c.o=7/\(c.v &&& c.m)≠c.v)
theorem nV(c:Z5)(hm:c.m<YN)(hv:c.v<YN)(w:World):Calls prog 80 #[.agg #[.int .i64 c.a,.int .i64 c.o,.int .u64 c.m,.int .u64 c.v]] w λe w'=>e=.returned (.bool (Xi c))/\Below w.heap.size w w':=by
 have hk:=MA hv hm;unfold Xi;obtain⟨a,o,m,v⟩:=c;dsimp only at*;have I:=aT (Yx w (.cells #[.int .i64 a,.int .i64 o,.int .u64 m,.int .u64 v] TC));have Z:=aT (Z7.new w TC #[.int .i64 a,.int .i64 o,.int .u64 m,.int .u64 v]);go_enter func80,ntmps80;go_upto_region 1 with fail;generalize w.alloc (.cells #[.int .i64 a,.int .i64 o,.int .u64 m,.int .u64 v] TC)=w1 at*;obtain⟨⟨z0,z1,z2,z3⟩,_⟩:=Z8 Z;by_cases T:o=7
 ·subst T;by_cases C:bits .andNot .u64 (v:Int) (m:Int)=0
  ·have D:=aT (hk.1 C);have U:(bits .andNot .u64 (v:Int) (m:Int) != 0)=false:=by simpa using C
   have J:(bits .andNot .u64 (v:Int) (m:Int) == 0)=true:=by simpa using C
   clear hk C;go_wp2_with fail;go_ret;exact⟨by simp[D.out],I⟩
  ·have D:Hid ((v &&& m)≠v):=λe=>C (hk.2 e)
   have U:(bits .andNot .u64 (v:Int) (m:Int) != 0)=true:=by simpa using C
   have J:(bits .andNot .u64 (v:Int) (m:Int) == 0)=false:=by simpa using C
   clear hk C;go_wp2_with fail;go_ret;exact⟨by simp[D.out],I⟩
 ·have H7:=aT T
  have Y:((o:Int) == 7)=false:=by rw[af];omega
  clear hk T;go_wp2_with fail;go_ret;exact⟨by simp[H7.out],I⟩
def iK(b:Bool)(w:World)(e:Ending)(w':World):Prop:=∃z:Int,e=.returned (.int .i64 z)/\decide (0<=z)=b/\Below w.heap.size w w'
theorem nU{α:Type}{p:α->Bool}{l:List α} {x:α}(h:(l.take q).any p=false)(hx:l[q]? =some x)(hp:p x=false):(l.take (q+1)).any p=false:=by
 rw[afd,hx,List.any_append,h];simp[hp]
theorem iJ{α:Type}{p:α->Bool}{l:List α} {x:α}(hx:l[q]? =some x)(hp:p x=true):l.any p=true:=aka.2 ⟨x,ag hx,hp⟩
theorem CD {ua:Option Addr}{uc:Nat}{cs:List Z5}(hK:cs.length=K)(hl:K<=1000000)(hr:∀c∈cs,c.m<YN/\c.v<YN)(w:World)(h:YT N w (.slice ua K uc) cs)(hN:N<=w.heap.size):
 Calls prog 130 #[.slice ua K uc,.func (.func 80) #[] #[]] w (iK (cs.any Xi) w):=by
 have HC:Hid (∀(k:Nat) (c:Z5),cs[k]? =some c->∃I off,ua=some ⟨I,off,none⟩/\I<N/\w.cell? ⟨I,off+k*4,none⟩=some (.int .i64 c.a)/\w.cell? ⟨I,off+k*4+1,none⟩=some (.int .i64 c.o)/\w.cell? ⟨I,off+k*4+2,none⟩=some (.int .u64 c.m)/\w.cell? ⟨I,off+k*4+3,none⟩=some (.int .u64 c.v)):=by obtain⟨a,c,e,h⟩:=h;cases e;exact h
 have HK:=aT hK;have HR:=aT hr;clear h hK hr;go_enter func130,ntmps130;go_upto_region 2 with fail;go_loopg [5,8] (K+1) (λgg _ iv wr=>∃q:Nat,q<=K/\K-q<gg/\iv=.int .i64 (q:Int)/\Hid ((cs.take q).any Xi=false)/\Hid (Below w.heap.size w wr));case atStart=>exact⟨0,abd _,jO,rfl,(by show _=_;rfl),aG _ _⟩
 case round=>
  obtain⟨q,hqL,Vs,rfl,HT,Y⟩:=hrel;have q0:=jZ q;by_cases hq:q<K
  ·have lq:(q:Int)<(K:Int):=by omega
   obtain⟨c,hc⟩:∃c,cs[q]? =some c:=⟨_,aL (by rw[HK.out];exact hq)⟩;obtain⟨I,off,rfl,DX,y0,y1,y2,y3⟩:=HC q c hc;have aD5:I<w.heap.size:=adg DX hN;have Z:∀j v,w.cell? ⟨I,j,none⟩=some v->wr.cell? ⟨I,j,none⟩=some v:=λj v hv=>(Y.cell (p:=⟨I,j,none⟩) aD5).trans hv
   have y0:=Z _ _ y0;have y1:=Z _ _ y1;have y2:=Z _ _ y2;have y3:=Z _ _ y3;have J:=HR c (ag hc);have T:=aT (nV c J.1 J.2 wr);cases C:Xi c with
   |false=>
    have Tp:=aT (nU HT hc C);rw[C] at T;clear Z hc C J;go_wp2_with fail;refine T.mono ?_;rintro e w1 ⟨rfl,D⟩;have U:=aT (Y.trans (D.mono Y.size));clear D y0 y1 y2 y3;go_wp2;go_roundg (K-q);case measure=>omega
    case rel=>exact⟨q+1,jO,jO,by go_num,Tp,U⟩
   |true=>
    have HF:=aT (iJ hc C);rw[C] at T;clear Z hc C J;go_wp2_with fail;refine T.mono ?_;rintro e w1 ⟨rfl,D⟩;have U:=aT (Y.trans (D.mono Y.size));clear D y0 y1 y2 y3;go_wp2;go_ret;exact⟨_,rfl,by rw[HF.out];exact acb q0,U⟩
  ·obtain rfl:K=q:=by omega
   have lq:¬(K:Int)<(K:Int):=jO;have ac7:Hid (cs.any Xi=false):=by have h:=HT.out;rwa [abe (by rw[HK.out];exact aR _)] at h
   go_wp2;go_ret;exact⟨_,rfl,by rw[ac7.out];decide,Y⟩
theorem CC {ua:Option Addr}{uc:Nat}{cs:List Z5}(J:cs.length=K)(hl:K<=1000000)(hr:∀c∈cs,c.m<YN/\c.v<YN)(w:World)(h:YT N w (.slice ua K uc) cs)(hN:N<=w.heap.size):
 Calls prog 79 #[.slice ua K uc,.func (.func 80) #[] #[]] w λe w'=>e=.returned (.bool (cs.any Xi))/\Below w.heap.size w w':=by
 have I:=aT (CD (uc:=uc) J hl hr w h hN);generalize cs.any Xi=b at*;clear h hN hr J;go_enter func79,ntmps79;go_wp2_with fail;refine I.mono ?_;rintro e U ⟨z,rfl,hz,C⟩;have D:=aT C;have T:Hid (decide ((0:Int)<=z)=b):=hz;clear C I hz;go_wp2;go_ret;exact⟨Gz T,D⟩
theorem Sn {nm:ByteArray}{k n:Int}{ua:Option Addr}{uc:Nat}{cs:List Z5}(J:cs.length=K)(hl:K<=1000000)(hr:∀c∈cs,c.m<YN/\c.v<YN)(w:World)(h:YT N w (.slice ua K uc) cs)(hN:N<=w.heap.size)(T:Z7 w BR TR #[.string nm,.int .i64 k,.int .i64 n,.slice ua K uc]):
 Calls prog 78 #[.pointer (some ⟨BR,0,none⟩)] w λe w'=>e=.returned (.bool (!cs.any Xi))/\Below w.heap.size w w':=by
 have I:=aT (CC (uc:=uc) J hl hr w h hN);generalize cs.any Xi=b at*;obtain⟨⟨U,Y,z2,Z⟩,_⟩:=Z8 T;clear h hN hr J T;go_enter func78,ntmps78;go_wp2_with fail;refine I.mono ?_;rintro e w1 ⟨rfl,C⟩;have D:=aT C;clear C I U Y z2 Z;go_wp2_with fail;go_ret;exact⟨rfl,D⟩
theorem zM{BT:Nat}{nm:ByteArray}{k n:Int}{u:Value}(Z:Option Addr)(Y:Nat)(l:List Z4.Z1)(w:World)(J:l.length<=1000000)(hR:Z4.Xv w (.slice Z l.length Y) l)(hT:Z4.ZA l)(I:Z7 w BT 41 #[.slice Z l.length Y])(hB:Z7 w BR TR #[.string nm,.int .i64 k,.int .i64 n,u]):
 Calls prog 77 #[.pointer (some ⟨BT,0,none⟩),.pointer (some ⟨BR,0,none⟩)] w λe w'=>e=.returned (.bool (decide (0<=Z4.firstIdx (Z4.UO nm) l)))/\Below w.heap.size w w':=by
 have T:=aT (Kj nm (.slice Z l.length Y) l w J hR hT);obtain⟨y,hy⟩:=jX (YK l nm);rw[hy] at T;unfold Z4.Z1.val at T;generalize Z4.firstIdx (Z4.UO nm) l=fi at*;generalize l.length=ll at*;have t0:=I.e0;obtain⟨⟨z0,z1,z2,z3⟩,_⟩:=Z8 hB;clear hy hR hT I hB;go_enter func77,ntmps77;go_wp2_with fail;refine T.mono ?_;rintro e w1 ⟨kk,b,rfl,D,C⟩;have U:=aT D;have VE:=aT (C.alloc C.size (.cells #[.string y.name,.int .i64 y.n0,.int .i64 y.n1,.int .i64 y.n2,.int .i64 y.n3,.int .i64 y.n4,.int .i64 y.Yp,.int .i64 y.sub] 40));clear D C t0 z0 z1 z2 z3;go_wp2_with fail;go_ret;refine⟨?_,VE⟩;have:b=decide (0<=fi):=by rw[ajd,U.out,adf]
 rw[this];rfl
def Cc(s:ByteArray)(ks:List ByteArray):Bool:=ks.any λt=>decide (t=s)
theorem NA{s:ByteArray}:Cc s ks=true↔s∈ks:=by
 unfold Cc;rw[aka];exact⟨λ⟨t,C,D⟩=>by rw[<-agc D];exact C,λh=>⟨s,h,acb rfl⟩⟩
def uh(ks:List ByteArray):List (Value×Value):=ks.map λs=>(.string s,.bool true)
theorem ad3:∀W,(zeroValue 4).run prog W=.ok (.bool false) W:=λ_=>jK
theorem CB{W:World}{B:Nat} (h:Zz W B (uh ks))(hd:ks.Pairwise (·≠·))(hs:∀s∈ks,s.size<=1000000){s:ByteArray}(hz:s.size<=1000000):(Instr.lookup 182 (.map (some B)) (.string s) false).run prog W=.ok (.bool (Cc s ks)) W:=by
 have hk:∀p∈uh ks,∃l,keyOf prog 9 p.1=some l:=λp hp=>by obtain⟨x,hx,rfl⟩:=ah.1 hp;exact Oc x (hs x hx)
 by_cases hm:s∈ks;·rw[NA.2 hm];exact Xq underlying182 Ti h hk (Oc s hz) (ah.2 ⟨s,hm,rfl⟩) (afa.2 (hd.imp (λC e=>C (aqf e))))
 ·rw[show Cc s ks=false by rw[<-Bool.not_eq_true,NA];exact hm]
  exact TX underlying182 Ti ad3 h hk (Oc s hz) (λp hp e=>by obtain⟨x,hx,rfl⟩:=ah.1 hp;exact hm (by rw[<-aqf e];exact hx))
theorem zL{PM B BR BO:Nat}{nm own:ByteArray}{k n:Int}{u:Value}{ks:List ByteArray}(w:World)(I:Zz w B (uh ks))(hd:ks.Pairwise (·≠·))(hs:∀s∈ks,s.size<=1000000)(hn:nm.size<=1000)(ho:own.size<=1000000)(D:Z7 w PM 182 #[.map (some B)])(U:Z7 w BR TR #[.string nm,.int .i64 k,.int .i64 n,u])(Y:Z7 w BO 9 #[.string own]):
 Calls prog 82 #[.pointer (some ⟨PM,0,none⟩),.pointer (some ⟨BR,0,none⟩),.pointer (some ⟨BO,0,none⟩)] w λe w'=>e=.returned (.bool (!Cc (nm++⟨#[58]⟩) ks && !Cc own ks))/\Below w.heap.size w w':=by
 have T:(nm++(⟨#[58]⟩:ByteArray)).size<=1000000:=by rw[ate];show nm.size+1<=_;omega
 have C:=CB I hd hs T;have J:=CB I hd hs ho;have m0:=D.e0;have o0:=Y.e0;obtain⟨⟨z0,z1,Z,z3⟩,_⟩:=Z8 U;generalize Cc (nm++(⟨#[58]⟩:ByteArray)) ks=b1 at*;generalize Cc own ks=b2 at*;clear I hd hs ho D U Y;cases b1 with
 |true=>
  go_enter func82,ntmps82
  go_wp2_with (rw[C])
  go_ret;exact⟨rfl,aG _ _⟩
 |false=>
  go_enter func82,ntmps82
  go_wp2_with (first|rw[C]|rw[J])
  go_ret;exact⟨by cases b2<;>rfl,aG _ _⟩
end Go.Proofs.YtclgigmgbebhgaaGreatDoor
namespace Go.Proofs.YtclgigmgbebhgaaGreatDoor.Z4
open Tryz
open Go Go.Proofs Go.RowKit
variable {a:Nat} {W W' w:World}
def xR(l:List Z1)(i:Nat)(p:Int×Int):Prop:=
 ∃k,k<i/\((∃a:Nat,a<5/\0<=(l[k]!).num a/\p=((a:Int),(l[k]!).num a))\/(0<(l[k]!).Yp/\p=(5+(l[k]!).Yp,(l[k]!).sub)))
def ey(y:Z1)(a:Nat)(p:Int×Int):Prop:=∃a':Nat,a'<a/\a'<5/\0<=y.num a'/\p=((a':Int),y.num a')
def YH(l:List Z1)(i:Nat)(y:Z1)(a:Nat)(S:List (Int×Int)):Prop:=∀p,p∈S↔xR l i p\/ey y a p
theorem CA(S:List (Int×Int))(p q:Int×Int):q∈JG S p↔q∈S\/q=p:=by
 unfold JG;split
 ·rename_i h;constructor;·exact .inl
  ·rintro(C|rfl);·exact C
   ·exact h
 ·simp
theorem YH.num{l:List Z1}{i:Nat}{y:Z1}{S:List (Int×Int)}(h:YH l i y a S)(ha:a<5)(I:0<=y.num a):((a:Int),y.num a)∈S↔∃k,k<i/\(l[k]!).num a=y.num a:=by
 rw[h];constructor
 ·rintro(⟨k,hk,⟨b,hb,D,C⟩|⟨D,C⟩⟩|⟨b,hb,_,_,C⟩);·simp only[arf] at C;obtain rfl:a=b:=jO;exact⟨k,hk,C.2.symm⟩
  ·simp only[arf] at C;omega
  ·simp only[arf] at C;omega
 ·rintro⟨k,hk,D⟩;exact .inl ⟨k,hk,.inl ⟨a,ha,by rw[D];exact I,by rw[D]⟩⟩
theorem YH.Yp{l:List Z1}{i:Nat}{y:Z1}{S:List (Int×Int)}(h:YH l i y a S)(J:0<y.Yp):(5+y.Yp,y.sub)∈S↔∃k,k<i/\(l[k]!).Yp=y.Yp/\(l[k]!).sub=y.sub:=by
 rw[h];constructor
 ·rintro(⟨k,hk,⟨b,hb,D,C⟩|⟨D,C⟩⟩|⟨b,hb,I,_,C⟩);·simp only[arf] at C;omega
  ·simp only[arf] at C;exact⟨k,hk,jO,jO⟩
  ·simp only[arf] at C;omega
 ·rintro⟨k,hk,D,C⟩;exact .inl ⟨k,hk,.inr ⟨jO,by rw[D,C]⟩⟩
theorem YH.skip{l:List Z1}{i:Nat}{y:Z1}{S:List (Int×Int)}(h:YH l i y a S)(T:y.num a= -1):YH l i y (a+1) S:=by
 intro p;rw[h];constructor
 ·rintro(h|⟨b,J,D,C,I⟩);·exact .inl h
  ·exact .inr ⟨b,jO,D,C,I⟩
 ·rintro(h|⟨b,J,D,C,I⟩);·exact .inl h
  ·refine .inr ⟨b,?_,D,C,I⟩;by_cases e:b=a;·subst e;omega
   ·omega
theorem YH.add{l:List Z1}{i:Nat}{y:Z1}{S:List (Int×Int)}(h:YH l i y a S)(ha:a<5)(T:0<=y.num a):YH l i y (a+1) (JG S ((a:Int),y.num a)):=by
 intro p;rw[CA,h];constructor
 ·rintro((h|⟨b,J,I,D,C⟩)|rfl);·exact .inl h
  ·exact .inr ⟨b,jO,I,D,C⟩
  ·exact .inr ⟨a,jO,ha,T,rfl⟩
 ·rintro(h|⟨b,J,I,D,C⟩);·exact .inl (.inl h)
  ·by_cases e:b=a;·subst e;exact .inr C
   ·exact .inl (.inr ⟨b,jO,I,D,C⟩)
theorem Jw(l:List Z1)(i:Nat)(p:Int×Int):xR l (i+1) p↔xR l i p\/ey l[i]! 5 p\/(0<(l[i]!).Yp/\p=(5+(l[i]!).Yp,(l[i]!).sub)):=by
 constructor
 ·rintro⟨k,hk,h⟩;by_cases e:k=i
  ·subst e;rcases h with⟨a,I,D,C⟩|h;·exact .inr (.inl ⟨a,I,I,D,C⟩)
   ·exact .inr (.inr h)
  ·exact .inl ⟨k,jO,h⟩
 ·rintro(⟨k,hk,h⟩|⟨a,I,D,C,J⟩|h);·exact⟨k,jO,h⟩
  ·exact⟨i,jO,.inl ⟨a,D,C,J⟩⟩
  ·exact⟨i,jO,.inr h⟩
def Seen(l:List Z1)(i:Nat)(S:List (Int×Int)):Prop:=∀p,p∈S↔xR l i p
theorem Seen.start{l:List Z1}{i:Nat}{S:List (Int×Int)}(h:Seen l i S)(y:Z1):YH l i y 0 S:=by
 intro p;rw[h];constructor;·exact .inl
 ·rintro(h|⟨b,C,_⟩);·exact h
  ·omega
theorem YH.done{l:List Z1}{i:Nat}{y:Z1}{S:List (Int×Int)}(h:YH l i y 5 S)(hy:l[i]! =y)(C:¬0<y.Yp):Seen l (i+1) S:=by
 intro p;rw[h,Jw,hy];constructor
 ·rintro(h|h);·exact .inl h
  ·exact .inr (.inl h)
 ·rintro(h|h|h);·exact .inl h
  ·exact .inr h
  ·exact absurd h.1 C
theorem YH.iH{l:List Z1}{i:Nat}{y:Z1}{S:List (Int×Int)}(h:YH l i y 5 S)(hy:l[i]! =y)(C:0<y.Yp):Seen l (i+1) (JG S (5+y.Yp,y.sub)):=by
 intro p;rw[CA,h,Jw,hy];constructor
 ·rintro((h|h)|h);·exact .inl h
  ·exact .inr (.inl h)
  ·exact .inr (.inr ⟨C,h⟩)
 ·rintro(h|h|h);·exact .inl (.inl h)
  ·exact .inl (.inr h)
  ·exact .inr h.2
theorem Seen.nil(l:List Z1):Seen l 0 []:=by
 intro p;constructor;·intro h;simp at h
 ·rintro⟨k,hk,_⟩;omega
structure Cz(B:Nat)(W W':World):Prop where
 os:W'.os=W.os
 tape:W'.tape=W.tape
 output:W'.output=W.output
 size:W.heap.size<=W'.heap.size
 block:∀b,b<W.heap.size->b≠B->W'.heap[b]? =W.heap[b]?
theorem Cz.blk{B:Nat} (h:Cz B W W'){b:Nat}{t:TypeId}{cs:Array Value}(hb:Z7 W b t cs)(C:b≠B):Z7 W' b t cs:=(h.block b hb.lt C).trans hb
theorem Cz.below{B n:Nat} (h:Cz B W W')(hb:Below n w W)(hn:n<=B)(hs:n<=W.heap.size):Below n w W':=
 ⟨by rw[h.os,hb.os],by rw[h.tape,hb.tape],by rw[h.output,hb.output],aO hb.size h.size,λb C=>(h.block b jO jO).trans (hb.block b C)⟩
theorem FK.kept{B:Nat}{S:List (Int×Int)}{p:Int×Int}{w':World}{e:Ending}(h:FK B S p w e w'):e=.returned (.bool (decide (p∈S)))/\XN w' B (JG S p)/\Cz B w w':=
 ⟨h.1,h.2.1,⟨h.2.2.2.1.symm,h.2.2.2.2.1.symm,h.2.2.2.2.2.1.symm,h.2.2.1,h.2.2.2.2.2.2⟩⟩
end Go.Proofs.YtclgigmgbebhgaaGreatDoor.Z4
