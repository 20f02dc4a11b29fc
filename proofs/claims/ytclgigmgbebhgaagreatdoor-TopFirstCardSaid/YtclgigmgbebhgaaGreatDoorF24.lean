/- TopFirst: part 24: TopSortU AbiOf TopRecP IterLaw TopWord. -/
import Derived.Test.YtclgigmgbebhgaaGreatDoorF23
set_option linter.unusedVariables false
set_option linter.unusedSimpArgs false
set_option maxRecDepth 100000
set_option maxHeartbeats 16000000
namespace Go.Proofs.YtclgigmgbebhgaaGreatDoor
open Tryz
open Go Go.Proofs Go.RowKit Go.Shelf
theorem vt{w:World}{g n cap:Nat}{d:Array Nat}(D:Sort.Holds ZK w g 0 d)(hd:d.size=n)(hn:n<=1000000)(Z:0<n):Calls prog 107 #[.slice (some ⟨g,0,none⟩) n cap] w (mQ w g n d (λv=>v=.tuple #[])):=by
 have Y:=aT (λC:Int=>pZ (cap:=cap) hn Z (n+1) w 0 n C d D hd (abd _) (aR _) jO);have J:=aT (j9 (n:Int) jO jO w);have iw:IntKind.u64.wrap (n:Int)=(n:Int):=aug _ jO;clear D hd;go_enter func107,ntmps107;go_wp2_with fail;refine J.mono ?_;rintro e w1 ⟨rfl,rfl⟩;go_wp2_with fail;refine(Y _).mono ?_;rintro e w2 ⟨v,U,rfl,rfl,I⟩;have T:=aT I;clear I;go_wp2_with fail;go_end0;exact⟨_,U,rfl,rfl,T⟩
attribute [local go_sem] atb
def WY(p:YP->Bool)(l:List YP):Option YP:=l.find? p
theorem Kn{p:YP->Bool}{pre:List YP}{x:YP}(h:WY p pre=none)(hx:p x=true):WY p (pre++[x])=some x:=by
 unfold WY at*;rw[awd,h];simp[hx]
theorem Nb{p:YP->Bool}{pre:List YP}{x:YP}(h:WY p pre=none)(hx:p x=false):WY p (pre++[x])=none:=by
 unfold WY at*;rw[awd,h];simp[hx]
theorem pY{p:YP->Bool}{pre l:List YP}{x:YP}(h:WY p pre=some x)(hp:pre <+: l):WY p l=some x:=by
 obtain⟨r,rfl⟩:=hp;unfold WY at*;rw[awd,h];rfl
def yx(a:Int):Value:=match WY (λx=>x.n == a) Ga with
 |some x=>.tuple #[.agg #[.string x.name,.int .u32 x.token,.bool x.bit,.int .i64 x.bits],.int .i64 0]
 |none=>.tuple #[.agg #[.string ⟨#[]⟩,.int .u32 0,.bool false,.int .i64 0],.int .i64 16]
theorem ak7(F:Fence)(n:Nat)(hf:F.fn 48)(vE:F.fn 100)(hf2:F.fn 164)(hro:F.round=none)(hn:4<=n)(a:Int)(w:World):
 CallsIn F n prog 48 #[.int .i64 a] w λe w'=>e=.returned (yx a)/\Below w.heap.size w w':=by
 have h1:1<=n:=jO;refine ayb func48 rfl hf ?_ hro;simp only[ntmps48,aic,ai,acg,Nat.reduceAdd,Nat.reduceSub,ale,alf,anc,amb,ahe,ahb]
 gi_wp2_with (gi_at_call 100;refine(kL F (n-1) vE hro _).mono ?_;rintro e w' ⟨rfl,rfl⟩)
 have b0:=((Z7.new w 3 #[.int .i64 a]).alloc (.cells #[.string ⟨#[]⟩,.int .u32 0,.bool false,.int .i64 0] 142)).alloc (.cells #[.int .i64 0] 45);have b1:=(Z7.new (w.alloc (.cells #[.int .i64 a] 3)) 142 #[.string ⟨#[]⟩,.int .u32 0,.bool false,.int .i64 0]).alloc (.cells #[.int .i64 0] 45);have b2:=Z7.new ((w.alloc (.cells #[.int .i64 a] 3)).alloc (.cells #[.string ⟨#[]⟩,.int .u32 0,.bool false,.int .i64 0] 142)) 45 #[.int .i64 0];simp only[aj] at b1 b2;have hB0:Below w.heap.size w (((w.alloc (.cells #[.int .i64 a] 3)).alloc (.cells #[.string ⟨#[]⟩,.int .u32 0,.bool false,.int .i64 0] 142)).alloc (.cells #[.int .i64 0] 45)):=(((aG _ w).alloc (aR _) _).alloc jS _).alloc (by simp;omega) _;have hsz:w.heap.size+3<=(((w.alloc (.cells #[.int .i64 a] 3)).alloc (.cells #[.string ⟨#[]⟩,.int .u32 0,.bool false,.int .i64 0] 142)).alloc (.cells #[.int .i64 0] 45)).heap.size:=jS;obtain⟨W0,hW0⟩:=jX ((((w.alloc (.cells #[.int .i64 a] 3)).alloc (.cells #[.string ⟨#[]⟩,.int .u32 0,.bool false,.int .i64 0] 142)).alloc (.cells #[.int .i64 0] 45)));rw[hW0] at b0 b1 b2 hB0 hsz ⊢;clear hW0
 refine wpIn_rangeFunc_ownH hro h1 (gf:=164) (lb:=#[]) rfl hf2 (enters_of func164 jK rfl)
  (qV F (n-1) hf2 hro jO W0) (λ_ _=>trivial) (λ_ _ _ _ _ _ _ _=>trivial) (aG _ _) (λ_=>rfl)
  (λJ W=>(((Z7 W w.heap.size 3 #[.int .i64 a]/\Z7 W (w.heap.size+1) 142 #[.string ⟨#[]⟩,.int .u32 0,.bool false,.int .i64 0])/\Z7 W (w.heap.size+1+1) 45 #[.int .i64 0])/\Below w.heap.size w W)/\WY (λx:YP=>x.n == a) J=none)
  (λc J W=>(c=.ret/\∃x,WY (λx:YP=>x.n == a) J=some x/\Z7 W (w.heap.size+1) 142 #[.string x.name,.int .u32 x.token,.bool x.bit,.int .i64 x.bits])/\(Z7 W (w.heap.size+1+1) 45 #[.int .i64 0]/\Below w.heap.size w W))
  (aAa (aAa (aAa (aAa (Own.from (QS _ _ _) _) (Own.from (QS _ _ _) _)) (Own.from (QS _ _ _) _)) (ownFrom_below (aR _) jO)) (ownFrom_pure _ _))
  (λc=>aAa (λJ X Y row hs hg hr=>by obtain⟨hc,x,hx,hb⟩:=hs;exact⟨hc,x,hx,QS _ _ (λ(_:Unit)=>#[.string x.name,.int .u32 x.token,.bool x.bit,.int .i64 x.bits]) () X Y row hb hg (λr e=>(hr r e).2)⟩) (aAa (Own.from (QS _ _ _) _) (ownFrom_below (aR _) jO)))
  ⟨⟨⟨⟨b0,b1⟩,b2⟩,hB0⟩,rfl⟩
  (λx a' W=>∃Bx,(w.heap.size+3<=Bx/\Z7 W Bx 142 #[.string x.name,.int .u32 x.token,.bool x.bit,.int .i64 x.bits])/\a'={tmps:=#[.int .i64 a,.pointer (some ⟨w.heap.size,0,none⟩),.pointer (some ⟨w.heap.size+1,0,none⟩),.pointer (some ⟨w.heap.size+1+1,0,none⟩),.int .i64 x.n,.pointer (some ⟨Bx,0,none⟩),.func (.func 164) #[] #[],.int .i64 x.n,.agg #[.string x.name,.int .u32 x.token,.bool x.bit,.int .i64 x.bits],undef,undef,undef,undef,undef],defers:=[]})
  (λx a' u X Y row hs hg hr=>by obtain⟨Bx,⟨h1,h2⟩,h3⟩:=hs;exact⟨Bx,⟨h1,QS _ _ (λ(_:Unit)=>#[.string x.name,.int .u32 x.token,.bool x.bit,.int .i64 x.bits]) () X Y row h2 hg (λr e=>(hr r e).2)⟩,h3⟩)
  ?assign ?body ?done ?stop
 case assign=>
  rintro l J x W K ⟨⟨⟨⟨c0,c1⟩,T⟩,I⟩,C⟩ hK;have hsW:=I.size
  gi_wp2
  refine hK _ _ ((KeepsOthers.alloc _ _).from _) trivial ⟨⟨⟨⟨c0.alloc _,c1.alloc _⟩,T.alloc _⟩,I.alloc hsW _⟩,C⟩ ⟨W.heap.size,⟨by have:=T.lt;omega,Z7.new _ _ _⟩,rfl⟩
 case body=>
  rintro l J x a' W hl ⟨r,hr⟩ ⟨⟨⟨⟨c0,c1⟩,T⟩,I⟩,C⟩ ⟨Bx,⟨hBx,hX⟩,rfl⟩ hlt;have k0:=c0.cell 0;have k1:=c1.cell 0;have k2:=T.cell 0;have pX:=c1.cell 0;have f10:=c1.frozen 0;have k11:=c1.cell 1;have f11:=c1.frozen 1;have k12:=c1.cell 2;have f12:=c1.frozen 2;have k13:=c1.cell 3;have f13:=c1.frozen 3;have f2:=T.frozen 0;obtain⟨x0,x1,x2,x3⟩:=hX.q4;simp only[au,aM,aH] at k0 k1 k2 pX k11 k12 k13;have hpp:KeepsFrom W0.heap.size W W:=KeepsFrom.refl _ _;cases U:(λx:YP=>x.n == a) x with
  |true=>
   have hx:=U;simp only[ahc] at hx;have Hx:=aT U;clear U
   gi_wp2
   exact⟨(((((ajf _ ⟨w.heap.size+1,0,none⟩ (.string x.name)).trans (ajf _ ⟨w.heap.size+1,1,none⟩ (.int .u32 x.token))).trans (ajf _ ⟨w.heap.size+1,2,none⟩ (.bool x.bit))).trans (ajf _ ⟨w.heap.size+1,3,none⟩ (.int .i64 x.bits))).trans (ajf _ ⟨w.heap.size+1+1,0,none⟩ (.int .i64 0))).from _,⟨rfl,x,Kn C Hx,((((c1.set 0 (.string x.name)).set 1 (.int .u32 x.token)).set 2 (.bool x.bit)).set 3 (.int .i64 x.bits)).other (B':=w.heap.size+1+1) jO 0 (.int .i64 0)⟩,((((T.other (B':=w.heap.size+1) jO 0 (.string x.name)).other (B':=w.heap.size+1) jO 1 (.int .u32 x.token)).other (B':=w.heap.size+1) jO 2 (.bool x.bit)).other (B':=w.heap.size+1) jO 3 (.int .i64 x.bits)).set 0 (.int .i64 0),((((I.setCell (p:=⟨w.heap.size+1,0,none⟩) jS (.string x.name)).setCell (p:=⟨w.heap.size+1,1,none⟩) jS (.int .u32 x.token)).setCell (p:=⟨w.heap.size+1,2,none⟩) jS (.bool x.bit)).setCell (p:=⟨w.heap.size+1,3,none⟩) jS (.int .i64 x.bits)).setCell (p:=⟨w.heap.size+1+1,0,none⟩) (by simp;omega) (.int .i64 0)⟩
  |false=>
   have hx:=U;simp only[af] at hx;have Hx:=aT U;clear U
   gi_wp2
   exact⟨hpp,trivial,⟨⟨⟨c0,c1⟩,T⟩,I⟩,Nb C Hx⟩
 case done=>
  rintro D xs W hD rfl ⟨⟨⟨⟨c0,c1⟩,T⟩,I⟩,C⟩ hK;have k1:=c1.cell 0;have k2:=T.cell 0;have pX:=c1.cell 0;have f10:=c1.frozen 0;have k11:=c1.cell 1;have f11:=c1.frozen 1;have k12:=c1.cell 2;have f12:=c1.frozen 2;have k13:=c1.cell 3;have f13:=c1.frozen 3;have f2:=T.frozen 0;simp only[au,aM,aH] at k1 k2 pX k11 k12 k13
  gi_wp2
  have hK':=(((((ajf _ ⟨w.heap.size+1,0,none⟩ (.string ⟨#[]⟩)).trans (ajf _ ⟨w.heap.size+1,1,none⟩ (.int .u32 0))).trans (ajf _ ⟨w.heap.size+1,2,none⟩ (.bool false))).trans (ajf _ ⟨w.heap.size+1,3,none⟩ (.int .i64 0))).trans (ajf _ ⟨w.heap.size+1+1,0,none⟩ (.int .i64 16))).same D _ hK rfl;have aa0:w.heap.size+1≠D:=jO;have Z:w.heap.size+1+1≠D:=jO;refine⟨jS,.inl ⟨_,_,rfl,axg hK',?_⟩⟩;have d1:=(((((c1.set 0 (.string ⟨#[]⟩)).set 1 (.int .u32 0)).set 2 (.bool false)).set 3 (.int .i64 0)).other (B':=w.heap.size+1+1) jO 0 (.int .i64 16)).put (.deferred none) aa0;have d2:=(((((T.other (B':=w.heap.size+1) jO 0 (.string ⟨#[]⟩)).other (B':=w.heap.size+1) jO 1 (.int .u32 0)).other (B':=w.heap.size+1) jO 2 (.bool false)).other (B':=w.heap.size+1) jO 3 (.int .i64 0)).set 0 (.int .i64 16)).put (.deferred none) Z;obtain⟨e10,e11,e12,e13⟩:=d1.q4;have e2:=d2.e0;refine⟨.tuple #[.agg #[.string ⟨#[]⟩,.int .u32 0,.bool false,.int .i64 0],.int .i64 16],?_,by simp only[yx,C],(((((I.setCell (p:=⟨w.heap.size+1,0,none⟩) jS (.string ⟨#[]⟩)).setCell (p:=⟨w.heap.size+1,1,none⟩) jS (.int .u32 0)).setCell (p:=⟨w.heap.size+1,2,none⟩) jS (.bool false)).setCell (p:=⟨w.heap.size+1,3,none⟩) jS (.int .i64 0)).setCell (p:=⟨w.heap.size+1+1,0,none⟩) (by simp;omega) (.int .i64 16)).trans (belowK_b (w:=w) (aR _) _ D _ (.deferred none) jO hK' rfl rfl)⟩;simp[results,Tryz.f48,go_sem,e10,e11,e12,e13,e2]
 case stop=>
  rintro D c J W hD hS ⟨⟨rfl,x,hx,c1⟩,T,I⟩ hK
  gi_wp2
  have aa0:w.heap.size+1≠D:=jO;have Z:w.heap.size+1+1≠D:=jO;refine⟨jS,.inl ⟨_,_,rfl,axg hK,?_⟩⟩;have d1:=c1.put (.deferred none) aa0;have d2:=T.put (.deferred none) Z;obtain⟨e10,e11,e12,e13⟩:=d1.q4;have e2:=d2.e0;refine⟨.tuple #[.agg #[.string x.name,.int .u32 x.token,.bool x.bit,.int .i64 x.bits],.int .i64 0],?_,by simp only[yx,pY hx hS],I.trans (belowK_b (w:=w) (aR _) _ D _ (.deferred none) jO hK rfl rfl)⟩;simp[results,Tryz.f48,go_sem,e10,e11,e12,e13,e2]
theorem Gb(a:Int)(w:World):Calls prog 48 #[.int .i64 a] w λe w'=>e=.returned (yx a)/\Below w.heap.size w w':=
 ajc.1 (ak7 Fence.wide 4 trivial trivial trivial rfl jO a w)
end Go.Proofs.YtclgigmgbebhgaaGreatDoor
namespace Go.Proofs.YtclgigmgbebhgaaGreatDoor
open Tryz
open Go Go.Proofs
def Y6(b:List Nat)(k:Nat):Nat:=b.getD k 0+256*b.getD (k+1) 0+65536*b.getD (k+2) 0+16777216*b.getD (k+3) 0
theorem JX{b:List Nat}(h:∀x∈b,x<256):GG (Y6 b):=λk=>by
 have one:∀j,b.getD j 0<256:=λj=>by
  rw[aee];cases e:b[j]? with
  |none=>exact(by decide:(0:Nat)<256)
  |some x=>exact h x (ag e)
 have J:=one k;have I:=one (k+1);have D:=one (k+2);have C:=one (k+3);unfold Y6;omega
end Go.Proofs.YtclgigmgbebhgaaGreatDoor
namespace Go.Proofs.YtclgigmgbebhgaaGreatDoor
open Tryz
open Go Go.Proofs Go.RowKit
def YL{β:Type}(own:Nat->Prop)(J:β->World->Prop):Prop:=
 ∀s A B row,J s A->A.grownBy B row->(∀r,row=some r->own r)->J s B
def ZT(R:Nat->Prop)(A B:World):Prop:=A.heap.size<=B.heap.size/\∀r,r<A.heap.size->R r->B.heap[r]? =A.heap[r]?
theorem ZT.refl(R:Nat->Prop)(A:World):ZT R A A:=⟨aR _,λ_ _ _=>rfl⟩
theorem ZT.trans{R:Nat->Prop}{A B C:World}(h:ZT R A B)(k:ZT R B C):ZT R A C:=
 ⟨aO h.1 k.1,λr hr D=>(k.2 r (adg hr h.1) D).trans (h.2 r hr D)⟩
theorem ZT.imp{R R':Nat->Prop}{A B:World}(h:ZT R A B)(hi:∀r,r<A.heap.size->R' r->R r):ZT R' A B:=⟨h.1,λr hr C=>h.2 r hr (hi r hr C)⟩
theorem ZT.grown{R:Nat->Prop}{A B:World}{row:Option Nat}(C:A.grownBy B row)(hr:∀r,row=some r->¬R r):ZT R A B:=
 ⟨C.size,λk hk D=>C.block k hk (λe=>hr k e.symm D)⟩
theorem ZT.below{R:Nat->Prop}{A B:World}(h:Below A.heap.size A B):ZT R A B:=⟨h.size,λk hk _=>h.block k hk⟩
theorem ZT.putObj{R:Nat->Prop}(A:World)(l:Nat)(o:Obj)(C:¬R l):ZT R A (A.putObj l o):=.grown (grownBy_putObj' A l o) (λr e=>by cases e;exact C)
theorem ZT.setCell{R:Nat->Prop}(A:World)(a:Addr)(v:Value)(C:¬R a.block):ZT R A (A.setCell a v):=
 ⟨(ajf A a v).size,λk _ hk=>afc A a v k (λe=>C (e▸hk))⟩
theorem ZT.alloc{R:Nat->Prop}(A:World)(o:Obj):ZT R A (A.alloc o):=.grown (aeb A o none) (λr e=>by cases e)
theorem YL.alloc{β:Type}{own:Nat->Prop}{J:β->World->Prop}(h:YL own J){s:β}{W:World}(o:Obj)(hs:J s W):J s (W.alloc o):=h s W _ none hs (aeb W o none) (λr e=>by cases e)
theorem YL.putObj{β:Type}{own:Nat->Prop}{J:β->World->Prop}(h:YL own J){s:β}{W:World}(l:Nat)(o:Obj)(hl:own l)(hs:J s W):J s (W.putObj l o):=h s W _ (some l) hs (grownBy_putObj' W l o) (λr e=>by cases e;exact hl)
theorem YL.mono{β:Type}{own ak8:Nat->Prop}{J:β->World->Prop}(h:YL own J)(hi:∀r,ak8 r->own r):YL ak8 J:=λs A B row hs C hr=>h s A B row hs C (λr e=>hi r (hr r e))
theorem YL.and{β:Type}{own:Nat->Prop}{J J':β->World->Prop}(h:YL own J)(D:YL own J'):YL own (λs W=>J s W/\J' s W):=λs A B row hs C hr=>⟨h s A B row hs.1 C hr,D s A B row hs.2 C hr⟩
theorem XL{β:Type}{own:Nat->Prop}{b:Nat}(hb:¬own b)(o:β->Obj):YL own (λs W=>W.heap[b]? =some (o s)):=λs A B row hs C hr=>
 (C.block b (aac.1 hs).1 (λe=>hb (hr b e.symm))).trans hs
theorem I5{β:Type}{own:Nat->Prop}{m:Nat}{w:World}(hm:m<=w.heap.size)(ho:∀r,own r->m<=r):YL own (λ(_:β) W=>Below m w W):=λ_ _ _ _ hs C hr=>
 hs.grown C (aO hm hs.size) (λk e=>ho k (hr k e))
def QD{α:Type}(F:Fence)(n:Nat)(P:Program)(g:Nat)(lb:Array Value)(M5:α->Array Value)(own kp:Nat->Nat->Prop)(K:Nat)(S Sp:List α->Prop)(w:World):Prop:=
 ∀(l:Nat) (J Jx:List α->World->Prop) (W:World),Below w.heap.size w W->YL (own W.heap.size) J->YL (own W.heap.size) Jx->
  (∀pre x W1,J pre W1->Sp (pre++[x])->W.heap.size+K<=W1.heap.size->YieldAt F (n-1) P l (M5 x) W1 λe W'=>
    ZT (kp W.heap.size) W1 W'/\((e=.returned (.bool true)/\J (pre++[x]) W')\/(e=.returned (.bool false)/\Jx (pre++[x]) W')))->
  J [] W->
  CallsIn F n P g (#[.func (.yield l) #[] #[]]++lb) W λe W'=>(∃v,e=.returned v)/\((∃xs,S xs/\J xs W')\/(∃pre,Sp pre/\Jx pre W'))
def pW{α:Type}(R:Nat->Prop)(I:List α->World->Prop)(Ix:Code->List α->World->Prop)(xs:List α)(W:World):Exit->Act->World->Prop
 | .normal,_,W'=>ZT R W W'/\I xs W'
 | .ret,_,W'=>ZT R W W'/\Ix .ret xs W'
 | .exit id,_,W'=>ZT R W W'/\Ix (.exit id) xs W'
 | .goto t,_,W'=>ZT R W W'/\Ix (.goto t) xs W'
 | .panic _,_,_=>False
 | .outgrown,_,_=>False
def YZ(kp:Nat->Nat->Prop)(h:Nat)(r:Nat):Prop:=r=h\/r=h+1\/kp (h+2) r
variable {F:Fence} {n:Nat} {P:Program}
theorem Xe{α:Type}{g:Operand}{ps:Array Tmp}{assign body:Code}{Q:Exit->Act->World->Prop}{a:Act}{w:World}
 (hro:F.round=none) (h1:1<=n) {gf:Nat} {lb:Array Value} (hg:a.eval g=.func (.func gf) #[] lb) (hFg:F.fn gf) (eg:∀args w,(callFunc gf args).run P w=.ok (.enter gf args) w)
 {M5:α->Array Value} {own kp:Nat->Nat->Prop} {K:Nat} {S Sp:List α->Prop} {w0:World} (hseq:QD F (n-1) P gf lb M5 own kp K S Sp w0)
 (hown:∀r,own (w.heap.size+2) r->r≠w.heap.size/\r≠w.heap.size+1) (hkp:∀r,kp (w.heap.size+2) r->r≠w.heap.size/\r≠w.heap.size+1)
 (hb0:Below w0.heap.size w0 w) (hps:∀x,(M5 x).size=ps.size)
 (I:List α->World->Prop) (Ix:Code->List α->World->Prop) (hI:YL (λr=>r=w.heap.size+1\/own (w.heap.size+2) r) I) (hIx:∀c,YL (λr=>r=w.heap.size+1\/own (w.heap.size+2) r) (Ix c)) (h0:I [] w)
 (Ax:α->Act->World->Prop) (hAx:∀x a',YL (λr=>r=w.heap.size+1) (λ(_:Unit) W=>Ax x a' W))
 (j5:∀(l:Nat) (D:List α) (x:α) (W:World) (C:Act->World->Prop),I D W->Sp (D++[x])->w.heap.size+2+K<=W.heap.size->(∀a' W',ZT (YZ kp w.heap.size) W W'->I D W'->Ax x a' W'->C a' W')->
   assign.wpIn (F.inRound l) (n-1-1) P (Exit.then C (λ_ _ _=>False)) {tmps:=(ps.zip (M5 x)).foldl (λt (p,v)=>t.setIfInBounds p v) a.tmps,defers:=[]} W)
 (ak9:∀(l:Nat) (D:List α) (x:α) (a':Act) (W:World),w.heap.size+2+K<=W.heap.size->Sp (D++[x])->I D W->Ax x a' W->body.wpIn (F.inRound l) (n-1-1) P (pW (YZ kp w.heap.size) I Ix (D++[x]) W) a' W)
 (hdone:∀(xs:List α) (W:World),S xs->I xs W->W.heap[w.heap.size]? =some (.deferred (some []))->Q .normal {a with defers:={target:=.collected w.heap.size,args:=#[]}::a.defers} W)
 (al0:∀(c:Code) (D:List α) (W:World),Sp D->Ix c D W->W.heap[w.heap.size]? =some (.deferred (some []))->c.wpIn F n P Q {a with defers:={target:=.collected w.heap.size,args:=#[]}::a.defers} W):
 (Code.rangeFunc g ps assign body).wpIn F n P Q a w:=by
 refine wpIn_rangeFunc ?_;intro fn hfn;rw[hro];obtain⟨J,T⟩:∃J:LoopState->Option Code->Loop,J=λst pe=>{state:=st,pending:=pe,fn,tmps:=a.tmps,params:=ps,assign,body,defers:=w.heap.size}:=⟨_,rfl⟩
 obtain⟨W1,hW1⟩:=jX ((w.alloc (.deferred (some []))).alloc (.loop (J .ready none)));have Z:W1.heap.size=w.heap.size+2:=by rw[<-hW1];simp
 have hL1:W1.heap[w.heap.size+1]? =some (.loop (J .ready none)):=by have:=arb (w.alloc (.deferred (some []))) (.loop (J .ready none));rw[aj,hW1] at this;exact this
 have hK1:W1.heap[w.heap.size]? =some (.deferred (some [])):=by rw[<-hW1];exact(Below.heap_alloc _ _ _ jS).trans (arb w _)
 have hI1:I [] W1:=by rw[<-hW1];exact hI.alloc _ (hI.alloc _ h0)
 have hb1:Below w0.heap.size w0 W1:=by rw[<-hW1];exact hb0.trans ((((aG _ w).alloc (aR _) _).alloc jS _).mono hb0.size)
 refine⟨w.heap.size+1,[{target:=.collected w.heap.size,args:=#[]}],W1,{target:=.fn (.func gf) lb,args:=#[.func (.yield (w.heap.size+1)) #[] #[]]},W1,gf,
  #[.func (.yield (w.heap.size+1)) #[] #[]]++lb,W1,?_,?_,?_,?_,λ_=>h1,?_⟩
 ·have:=run_enterLoop_outer (P:=P) (w:=w) fn a.tmps ps assign body;rw[<-hW1,T];exact this
 ·simp only[resolve,hg];simp[go_sem]
 ·intro f' hf';simp[Target.leads] at hf';subst hf';exact hFg
 ·simp[invoke,go_sem,eg]
 ·have hno:∀r,own W1.heap.size r->r≠w.heap.size/\r≠w.heap.size+1:=λr h=>hown r (by rw[Z] at h;exact h)
  have inI:∀r,own W1.heap.size r->r=w.heap.size+1\/own (w.heap.size+2) r:=λr h=>.inr (by rw[Z] at h;exact h)
  refine(hseq (w.heap.size+1)
   (λD W=>I D W/\W.heap[w.heap.size+1]? =some (.loop (J .ready none))/\W.heap[w.heap.size]? =some (.deferred (some [])))
   (λD W=>∃c,Ix c D W/\W.heap[w.heap.size+1]? =some (.loop (J .done (some c)))/\W.heap[w.heap.size]? =some (.deferred (some [])))
   W1 hb1
   ((hI.mono inI).and ((XL (λh=>(hno _ h).2 rfl) (λ_=>_)).and (XL (λh=>(hno _ h).1 rfl) (λ_=>_))))
   (λs A B row hs hg' hr=>by obtain⟨c,hc⟩:=hs;exact⟨c,(((hIx c).mono inI).and ((XL (λh=>(hno _ h).2 rfl) (λ_=>.loop (J .done (some c)))).and (XL (λh=>(hno _ h).1 rfl) (λ_=>.deferred (some []))))) s A B row hc hg' hr⟩)
   ?_ ⟨hI1,hL1,hK1⟩).mono ?_
  ·rintro D x W ⟨hi,hl,hk⟩ hsp hsz;rw[Z] at hsz;have hlt:w.heap.size+1<W.heap.size:=jO;have hy:=run_yield (P:=P) (args:=M5 x) hl (by rw[T];exact hps x);rw[T] at hy;refine⟨fn,_,assign,body,hy,roundIn_of_wpIn hfn (j5 _ D x W _ hi hsp hsz ?_)⟩;clear hy;intro a' Wa hka hia hax;have hla:=(hka.2 (w.heap.size+1) hlt (.inr (.inl rfl))).trans hl;have hda:=(hka.2 w.heap.size jO (.inl rfl)).trans hk;have ay7:w.heap.size+1<Wa.heap.size:=(aac.1 hla).1;refine⟨_,run_beginRound hla (by rw[T]),?_⟩;obtain⟨Wb,hWb⟩:=jX (Wa.putObj (w.heap.size+1) (.loop {J .ready none with state:=.busy}));have hlb:Wb.heap[w.heap.size+1]? =some (.loop {J .ready none with state:=.busy}):=by rw[<-hWb];exact World.putObj_heap_same ay7
   have hdb:Wb.heap[w.heap.size]? =some (.deferred (some [])):=by rw[<-hWb];exact(avc jO).trans hda
   have hib:I D Wb:=by rw[<-hWb];exact hI.putObj _ _ (.inl rfl) hia
   have hab:Ax x a' Wb:=by rw[<-hWb];exact(hAx x a').putObj (s:=()) _ _ rfl hax
   have hsb:w.heap.size+2+K<=Wb.heap.size:=by rw[<-hWb];exact aO hsz (aO hka.1 jS)
   have hkb:ZT (kp W1.heap.size) W Wb:=by rw[<-hWb];exact(hka.imp (λr _ h=>.inr (.inr (by rw[Z] at h;exact h)))).trans (ZT.putObj _ _ _ (λh=>(hkp _ (by rw[Z] at h;exact h)).2 rfl))
   rw[hWb];refine wpIn_mono (ak9 _ D x a' Wb hsb hsp hib hab) ?_
   have fin:∀(jump:Option Code) (W3:World),ZT (YZ kp w.heap.size) Wb W3->
    (Instr.endRound (w.heap.size+1) jump).run P W3=.ok (.bool jump.isNone) (W3.putObj (w.heap.size+1) (.loop (J (if jump.isNone then .ready else .done) jump)))/\
    (W3.putObj (w.heap.size+1) (.loop (J (if jump.isNone then .ready else .done) jump))).heap[w.heap.size+1]? =some (.loop (J (if jump.isNone then .ready else .done) jump))/\
    (W3.putObj (w.heap.size+1) (.loop (J (if jump.isNone then .ready else .done) jump))).heap[w.heap.size]? =some (.deferred (some []))/\
    ZT (kp W1.heap.size) W (W3.putObj (w.heap.size+1) (.loop (J (if jump.isNone then .ready else .done) jump))):=λjump W3 U=>by
    have hl3:=(U.2 (w.heap.size+1) jO (.inr (.inl rfl))).trans hlb;have mO:=(U.2 w.heap.size jO (.inl rfl)).trans hdb;have:=run_endRound (P:=P) jump hl3;rw[T] at this ⊢;refine⟨this,World.putObj_heap_same (aac.1 hl3).1,(avc jO).trans mO,?_⟩;exact(hkb.trans (U.imp (λr _ h=>.inr (.inr (by rw[Z] at h;exact h))))).trans (ZT.putObj _ _ _ (λh=>(hkp _ (by rw[Z] at h;exact h)).2 rfl))
   rintro e a3 W3 hp;cases e with
   |normal=>
    obtain⟨U,hi3⟩:=hp;obtain⟨hr,hl4,vq,Y⟩:=fin none W3 U;exact⟨_,_,hr,Y,.inl ⟨rfl,hI.putObj _ _ (.inl rfl) hi3,hl4,vq⟩⟩
   |ret=>
    obtain⟨U,hi3⟩:=hp;obtain⟨hr,hl4,vq,Y⟩:=fin (some .ret) W3 U;exact⟨_,_,hr,Y,.inr ⟨rfl,.ret,(hIx _).putObj _ _ (.inl rfl) hi3,hl4,vq⟩⟩
   |exit id=>
    obtain⟨U,hi3⟩:=hp;obtain⟨hr,hl4,vq,Y⟩:=fin (some (.exit id)) W3 U;exact⟨_,_,hr,Y,.inr ⟨rfl,.exit id,(hIx _).putObj _ _ (.inl rfl) hi3,hl4,vq⟩⟩
   |goto t=>
    obtain⟨U,hi3⟩:=hp;obtain⟨hr,hl4,vq,Y⟩:=fin (some (.goto t)) W3 U;exact⟨_,_,hr,Y,.inr ⟨rfl,.goto t,(hIx _).putObj _ _ (.inl rfl) hi3,hl4,vq⟩⟩
   |panic ch=>exact hp.elim
   |outgrown=>exact hp.elim
  ·rintro e W2 ⟨⟨v,rfl⟩,(⟨xs,hS,hi,hl,hk⟩|⟨D,hSp,c,hi,hl,hk⟩)⟩;·exact⟨none,_,by have:=run_endLoop (P:=P) hl (by rw[T];simp);rw[T] at this;exact this,hdone xs _ hS (hI.putObj _ _ (.inl rfl) hi) ((avc jO).trans hk)⟩
   ·exact⟨some c,_,by have:=run_endLoop (P:=P) hl (by rw[T];simp);rw[T] at this;exact this,al0 c D _ hSp ((hIx c).putObj _ _ (.inl rfl) hi) ((avc jO).trans hk)⟩
end Go.Proofs.YtclgigmgbebhgaaGreatDoor
namespace Go.Proofs.YtclgigmgbebhgaaGreatDoor
open Tryz
open Go Go.Proofs Go.RowKit Go.Shelf
variable {g j:Nat} {ad:Option Addr}
attribute [local go_sem] atb
theorem ay8 (w:World)(h:Z7 w g 3 #[.int .i64 1,.int .i64 2,.int .i64 4,.int .i64 8]):Calls prog 261 #[.slice (some ⟨g,0,none⟩) 4 4,.int .i64 2] w λe w'=>e=.returned (.int .i64 1)/\w=w':=by
 obtain⟨D,C⟩:=h.q2;clear h;go_enter func261,ntmps261;go_wp2_with fail
 go_loop [8] (λi=>i=.int .i64 0\/i=.int .i64 1) (λi=>5-(intOf i).toNat)
 case atStart=>exact .inl rfl
 case round=>
  rcases hrel with rfl|rfl
  ·go_wp2_with fail;go_round;case rel=>exact .inr rfl
   case measure=>simp[intOf]
  ·go_wp2_with fail;go_ret;exact⟨rfl,rfl⟩
theorem ay9 (w:World)(h:Z7 w g 3 #[.int .i64 1,.int .i64 2,.int .i64 4,.int .i64 8]):Calls prog 261 #[.slice (some ⟨g,0,none⟩) 4 4,.int .i64 4] w λe w'=>e=.returned (.int .i64 2)/\w=w':=by
 obtain⟨D,C,I⟩:=h.q3;clear h;go_enter func261,ntmps261;go_wp2_with fail
 go_loop [8] (λi=>i=.int .i64 0\/i=.int .i64 1\/i=.int .i64 2) (λi=>5-(intOf i).toNat)
 case atStart=>exact .inl rfl
 case round=>
  rcases hrel with rfl|rfl|rfl
  ·go_wp2_with fail;go_round;case rel=>exact .inr (.inl rfl)
   case measure=>simp[intOf]
  ·go_wp2_with fail;go_round;case rel=>exact .inr (.inr rfl)
   case measure=>simp[intOf]
  ·go_wp2_with fail;go_ret;exact⟨rfl,rfl⟩
theorem pV{k:Nat}(hk:k=2\/k=4)(w:World)(h:Z7 w g 3 #[.int .i64 1,.int .i64 2,.int .i64 4,.int .i64 8]):Calls prog 185 #[.slice (some ⟨g,0,none⟩) 4 4,.int .i64 k] w λe w'=>e=.returned (.bool true)/\w=w':=by
 rcases hk with rfl|rfl;·have H:=aT (ay8 w h);clear h;go_enter func185,ntmps185;go_wp2_with fail;refine H.mono ?_;rintro e w' ⟨rfl,rfl⟩;go_wp2_with fail;go_ret;exact⟨rfl,rfl⟩
 ·have H:=aT (ay9 w h);clear h;go_enter func185,ntmps185;go_wp2_with fail;refine H.mono ?_;rintro e w' ⟨rfl,rfl⟩;go_wp2_with fail;go_ret;exact⟨rfl,rfl⟩
theorem vp{L c at_ k:Nat} (hk:k=2\/k=4)(I:at_+k<=L)(C:L<=1000000)(w:World):Calls prog 116 #[.slice ad L c,.int .i64 at_,.int .i64 k] w λe w'=>e=.returned (.int .i64 0)/\Below w.heap.size w w':=by
 have H:=aT (pV hk _ (Z7.new w 3 #[.int .i64 1,.int .i64 2,.int .i64 4,.int .i64 8]));have D:=aT ((aG w.heap.size w).alloc (aR _) (.cells #[.int .i64 1,.int .i64 2,.int .i64 4,.int .i64 8] 3));have c1:¬((at_:Int)<0):=jO;have J:IntKind.i64.wrap ((L:Int)-(k:Int))=(L:Int)-(k:Int):=aJ _ jO;have T:¬((L:Int)-(k:Int)<(at_:Int)):=jO;go_enter func116,ntmps116;go_wp2_with fail;refine H.mono ?_;rintro e w' ⟨rfl,rfl⟩;go_wp2_with fail;go_ret;exact⟨rfl,D⟩
theorem AJ(at_ k:Nat)(w:World):Calls prog 117 #[.int .i64 at_,.int .i64 k,.bool false] w λe w'=>e=.returned (.func (.func 186) #[] #[.pointer (some ⟨w.heap.size+1,0,none⟩),.pointer (some ⟨w.heap.size,0,none⟩),.pointer (some ⟨w.heap.size+1+1,0,none⟩)])/\w'=((w.alloc (.cells #[.int .i64 at_] 3)).alloc (.cells #[.int .i64 k] 3)).alloc (.cells #[.bool false] 4):=by
 have C:∀(fn:Fn) (first cap:Array Value) (w:World),(Instr.makeFunc fn first cap).run prog w=.ok (.func fn first cap) w:=λ_ _ _ _=>rfl
 go_enter func117,ntmps117;go_wp2_with fail;go_ret;exact⟨rfl,rfl⟩
def Yj(at_ k:Nat):List Nat:=(List.range k).map λi=>at_+k-1-i
theorem JW{at_ k:Nat}(h:j<k):(Yj at_ k)[j]? =some (at_+k-1-j):=by
 unfold Yj;rw[acd,anf h];rfl
theorem Mq(at_ k:Nat):(Yj at_ k).length=k:=by
 unfold Yj;rw[aab,afe]
theorem NQ{at_ k:Nat}(h:j<k):(Yj at_ k).take (j+1)=(Yj at_ k).take j++[at_+k-1-j]:=by
 rw[afd,JW h];rfl
theorem AH(F:Fence)(n:Nat)(hf:F.fn 186)(hro:F.round=none)(hn:1<=n)(w:World){Ba Bw Bb at_ k:Nat}(ha:Z7 w Ba 3 #[.int .i64 at_])(hw:Z7 w Bw 3 #[.int .i64 k])(hb:Z7 w Bb 4 #[.bool false])(hk:at_+k<=1000000):
 QD F n prog 186 #[.pointer (some ⟨Bw,0,none⟩),.pointer (some ⟨Ba,0,none⟩),.pointer (some ⟨Bb,0,none⟩)] (λx:Nat=>#[.int .i64 x]) (λ_ _=>False) (λ_ r=>r=Ba\/r=Bw\/r=Bb) 0 (λxs=>xs=Yj at_ k) (λpre=>pre <+: Yj at_ k) w:=λl J Jx W hW hJ hJx hY h0=>by
 have HA:=aT (ha.below hW ha.lt);have HW:=aT (hw.below hW hw.lt);have HB:=aT (hb.below hW hb.lt);have HY:=aT hY;have H0:=aT h0;have k2:=HW.e0;clear ha hw hb hY h0;refine aAc func186 rfl hf ?_ hro;simp only[ntmps186,aic,ai,acg,Nat.reduceAdd,Nat.reduceSub,ale,alf,anc,amb,ahe,ahb]
 gi_wp2
 gi_loopw [8] (λi wr=>∃j:Nat,j<=k/\i=.int .i64 (j:Int)/\Hid (J ((Yj at_ k).take j) wr)/\Hid (Z7 wr Ba 3 #[.int .i64 at_])/\Hid (Z7 wr Bw 3 #[.int .i64 k])/\Hid (Z7 wr Bb 4 #[.bool false])/\W.heap.size<=wr.heap.size) (λi _=>k-(intOf i).toNat)
 case atStart=>exact⟨0,jO,rfl,H0,HA,HW,HB,aR _⟩
 case round=>
  obtain⟨j,hj,rfl,HJ,C,I,D,Z⟩:=hrel;clear HA HW HB H0 k2;have k1:=C.e0;have k2:=I.e0;have k3:=D.e0;by_cases hlt:j<k
  ·have Y:(j:Int)<(k:Int):=by omega
   have w1:IntKind.i64.wrap ((at_:Int)+(k:Int))=(at_:Int)+(k:Int):=aJ _ jO;have w2:IntKind.i64.wrap ((at_:Int)+(k:Int)-1)=(at_:Int)+(k:Int)-1:=aJ _ jO;have w3:IntKind.i64.wrap ((at_:Int)+(k:Int)-1-(j:Int))=((at_+k-1-j:Nat):Int):=by rw[aJ _ jO];omega
   have w4:=jW j;obtain⟨fn,tmps,assign,body,hy,hR⟩:=HY _ (at_+k-1-j) wr HJ (by rw[<-NQ hlt];exact List.take_prefix _ _) Z;rw[<-NQ hlt] at hR;have HR:=aT hR;clear hR;generalize at_+k-1-j=X at*
   gi_wp2
   refine HR.mono ?_;rintro e W3 ⟨U,(⟨rfl,hJ3⟩|⟨rfl,T⟩)⟩
   ·have HJ3:=aT hJ3;have Gg:Hid (Z7 W3 Ba 3 #[.int .i64 at_]):=((U.2 _ (Z7.lt C) (.inl rfl)).trans C);have cK:Hid (Z7 W3 Bw 3 #[.int .i64 k]):=((U.2 _ (Z7.lt I) (.inr (.inl rfl))).trans I);have Uy:Hid (Z7 W3 Bb 4 #[.bool false]):=((U.2 _ (Z7.lt D) (.inr (.inr rfl))).trans D);have aa1:=aO Z U.1;clear hJ3 U HJ C I D k1 k2 k3
    gi_wp2
    go_roundw
    case rel=>exact⟨j+1,jO,by go_num,HJ3,Gg,cK,Uy,aa1⟩
    case measure=>simp[intOf];omega
   ·have HX:=aT T;clear T
    gi_wp2
    refine aaf (aof rfl _ _ _) rfl ?_;exact⟨⟨_,rfl⟩,.inr ⟨_,List.take_prefix _ _,HX⟩⟩
  ·obtain rfl:j=k:=by omega
   have Y:¬(j:Int)<(j:Int):=jO
   gi_wp2
   go_end0;have:=HJ.out;rw[abe (by rw[Mq];exact aR _)] at this;exact⟨⟨_,rfl⟩,.inl this⟩
def Yi(N:Nat)(W:World)(ad:Option Addr)(bs:List Nat):Prop:=∀(i x:Nat),bs[i]? =some x->∃g off,ad=some ⟨g,off,none⟩/\g<N/\W.cell? ⟨g,off+i,none⟩=some (.int .u8 x)
theorem Yi.below{N K:Nat}{W W':World}(hb:Below K W W')(hN:N<=K) {bs:List Nat}(h:Yi N W ad bs):Yi N W' ad bs:=λi x hx=>by
 obtain⟨g,off,e,hl,C⟩:=h i x hx;exact⟨g,off,e,hl,ZY hb hN hl C⟩
end Go.Proofs.YtclgigmgbebhgaaGreatDoor
