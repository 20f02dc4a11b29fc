/- TopFirst: part 6: TopParts TopN1 TopN2 TopBuildZ TopRes1 Cond. -/
import Derived.IntWalk
import Derived.BigRegion
import Derived.Laws.Bits64b
import Derived.Sort.Statements
import Derived.Sort.Grow
import Derived.Laws.MathBits
import Derived.WalkSpells
import Derived.Deep.QuietTactic
import Derived.Outline
import Derived.Test.YtclgigmgbebhgaaGreatDoorF05
set_option linter.unusedVariables false
set_option linter.unusedSimpArgs false
set_option maxRecDepth 100000
set_option maxHeartbeats 16000000
namespace Go.Proofs.YtclgigmgbebhgaaGreatDoor
open Tryz
open Go Go.Proofs Go.RowKit Go.Maps Go.WideMaps Go.ChangeMaps
variable {pc:Array Value} {LO M Bm N ow a mB pB aB oB R o:Nat} {vs c2 c3:Value} {W w:World}
open Go.Sort (SWO PermIn SortedIn)
open Go.Shelf
abbrev BJ:Nat:=219
abbrev Xw:Nat:=78
instance:Inhabited ZM:=⟨.subs []⟩
abbrev VL:=Fin 4294967296×(Nat×Array Value)×ZM
def Rq(x:VL):List Value:=[.int .u32 x.1.val,.func (.func x.2.1.1) #[] x.2.1.2]
theorem df:(prog.info? BJ).map (λi=>(i.zero,i.size,i.bytes))=some (some (.agg #[.int .u32 0,.nilFunc]),2,16):=jK
def ghost(x:VL):Nat×ZM:=(x.1.val,x.2.2)
theorem lV(x y:VL):ltOf (λx y:VL=>(x.1.val:Int)-(y.1.val:Int)) x y=decide (x.1.val<y.1.val):=by
 unfold ltOf;by_cases h:x.1.val<y.1.val;·simp[h];omega
 ·simp[h];omega
theorem ag8:SWO (ltOf λx y:VL=>(x.1.val:Int)-(y.1.val:Int)) where
 irrefl x:=by rw[lV];simp
 trans x y z h1 h2:=by rw[lV] at*;simp at*;omega
 ntrans x y z h1 h2:=by rw[lV] at*;simp at*;omega
theorem ag9(x y:VL)(W:World):Calls prog 173 #[.agg #[.int .u32 x.1.val,.func (.func x.2.1.1) #[] x.2.1.2],.agg #[.int .u32 y.1.val,.func (.func y.2.1.1) #[] y.2.1.2]] W λe w'=>e=.returned (.int .i64 ((x.1.val:Int)-(y.1.val:Int)))/\∃q C,w'=Go.Sort.grow (W.drewN q) C:=by
 obtain⟨⟨x,hx⟩,⟨D,Z⟩,Y⟩:=x;obtain⟨⟨y,hy⟩,⟨J,T⟩,ty⟩:=y;dsimp only;have h1:IntKind.i64.wrap (x:Int)=x:=aJ _ jO;have I:IntKind.i64.wrap (y:Int)=y:=aJ _ jO;have U:IntKind.i64.wrap ((x:Int)-(y:Int))=(x:Int)-(y:Int):=aJ _ jO;go_enter func173,ntmps173;go_wp2_with fail;go_ret;exact⟨rfl,0,_,by rw[Go.Sort.alloc_eq_grow,Go.Sort.alloc_eq_grow,Go.Sort.grow_grow];rfl⟩
abbrev Oj:Nat:=119
structure TM(W:World)(M ow a mB pB aB oB:Nat)(pc:Array Value):Prop where
 hm:Z7 W mB 132 #[.pointer (some ⟨M,0,none⟩)]
 hp:Z7 W pB Xw pc
 ha:Z7 W aB 3 #[.int .i64 a]
 ho:Z7 W oB 3 #[.int .i64 ow]
def Does(N a mB pB aB oB:Nat)(pc:Array Value)(W:World)(x:VL):Prop:=
 match x.2.2 with
 | .rules wide rs=>wide=decide (a≠2)/\O0 rs/\rs.length<=1000000/\(∀r∈rs,r.1.length<=1000000)/\∃eB num vr,x.2.1=(167,#[.pointer (some ⟨mB,0,none⟩),.pointer (some ⟨eB,0,none⟩),.pointer (some ⟨aB,0,none⟩),.pointer (some ⟨oB,0,none⟩)])/\Z7 W eB Oj #[num,vr]/\Um N W vr rs
 | .subs l=>l.length<=4000/\l.Pairwise (λa b=>a.1<b.1)/\(∀p∈l,p.2<4294967296)/\∃vs,Vy N W vs l/\
    ((x.2.1=(169,#[.pointer (some ⟨mB,0,none⟩),.pointer (some ⟨pB,0,none⟩),.pointer (some ⟨oB,0,none⟩)])/\pc[7]? =some vs)\/(x.2.1=(171,#[.pointer (some ⟨mB,0,none⟩),.pointer (some ⟨pB,0,none⟩),.pointer (some ⟨oB,0,none⟩)])/\pc[8]? =some vs))
theorem Does.mono{N a mB pB aB oB K:Nat}{pc:Array Value}{W W':World}(hk:∀B cs,Z7 W B Oj cs->Z7 W' B Oj cs)(hb:Below K W W')(hN:N<=K){x:VL}(h:Does N a mB pB aB oB pc W x):Does N a mB pB aB oB pc W' x:=by
 obtain⟨n,f,U⟩:=x;cases U with
 |rules wide rs=>
  obtain⟨T,C,D,J,eB,num,Y,I,Z,h7⟩:=h;exact⟨T,C,D,J,eB,num,Y,I,hk _ _ Z,h7.below hb hN⟩
 |subs l=>
  obtain⟨T,C,D,vs,J,I⟩:=h;exact⟨T,C,D,vs,J.below hb hN,I⟩
theorem Does.fn{N a mB pB aB oB:Nat}{pc:Array Value}{W:World}{x:VL}(h:Does N a mB pB aB oB pc W x):∃cs,x.2.1=(167,cs)\/x.2.1=(169,cs)\/x.2.1=(171,cs):=by
 obtain⟨n,f,D⟩:=x;cases D with
 |rules wide rs=>
  obtain⟨_,_,_,_,J,num,I,C,_⟩:=h;exact⟨_,.inl C⟩
 |subs l=>
  obtain⟨_,_,_,vs,_,C|C⟩:=h;·exact⟨_,.inr (.inl C.1)⟩
  ·exact⟨_,.inr (.inr C.1)⟩
def UA(LO M Bm ow:Nat)(g:G)(w:World)(tp:ZM):Ending->World->Prop:=λe w'=>e=.returned (.tuple #[])/\∃v',Zj LO M Bm w' v' (VM ow tp g)/\Yb LO M Bm w w'/\V9 (VM ow tp g)
theorem BI{eB:Nat} {v num vr:Value}{g:G}(rs:List Z3)(w:World)(hc:O0 rs)(h1:rs.length<=1000000)(h2:∀r∈rs,r.1.length<=1000000)(he:Z7 w eB Oj #[num,vr])(hm:Um N w vr rs)
 (hb:TM w M ow a mB pB aB oB pc) (h:Zj LO M Bm w v g) (hg:V9 g) (hG:GB (XK (decide (a≠2)) ow rs g)) (hN:N<=LO) (VS:LO<=w.heap.size):
 Calls prog 167 #[.pointer (some ⟨mB,0,none⟩),.pointer (some ⟨eB,0,none⟩),.pointer (some ⟨aB,0,none⟩),.pointer (some ⟨oB,0,none⟩)] w (UA LO M Bm ow g w (.rules (decide (a≠2)) rs)):=by
 have c1:=cell1 hb.hm;have c2:=cell1 hb.ha;have c3:=cell1 hb.ho;have c4:w.cell? ⟨eB,1,none⟩=some vr:=by simpa using he.cell 1
 have J:=aT (xD rs (decide (a≠2)) ow hc h1 h2 w h hg hG hm hN VS);obtain⟨ua,uc,rfl,U⟩:=hm;unfold UA;clear U he hb h hg hG hc h2;by_cases ha:a=2;·subst ha;go_enter func167,ntmps167;go_wp2_with fail;refine J.mono ?_;rintro e w' ⟨rfl,v',D,C,I⟩;have T:=aT D;have Y:=aT C;have Z:=aT I;clear D C I J;go_wp2_with fail;go_end0;exact⟨rfl,v',T,Y,Z⟩
 ·have hz:((a:Int) == 2)=false:=by rw[af];omega
  have hz2:((a:Int) != 2)=true:=by rw[aze];omega
  have hd:decide (a≠2)=true:=by simpa using ha
  rw[hd] at J ⊢;clear hd;go_enter func167,ntmps167;go_wp2_with fail;refine J.mono ?_;rintro e w' ⟨rfl,v',D,C,I⟩;have T:=aT D;have Y:=aT C;have Z:=aT I;clear D C I J;go_wp2_with fail;go_end0;exact⟨rfl,v',T,Y,Z⟩
theorem BH{v:Value}{g:G}(l:List (Nat×Nat))(w:World)(h1:l.length<=4000)(I:l.Pairwise (λa b=>a.1<b.1))(T:∀p∈l,p.2<4294967296)(hm:Vy N w vs l)(hp:pc[7]? =some vs)
 (hb:TM w M ow a mB pB aB oB pc) (h:Zj LO M Bm w v g) (Y:V9 g) (U:GB (WG ow l g)) (hN:N<=LO) (D:LO<=w.heap.size):
 Calls prog 169 #[.pointer (some ⟨mB,0,none⟩),.pointer (some ⟨pB,0,none⟩),.pointer (some ⟨oB,0,none⟩)] w (UA LO M Bm ow g w (.subs l)):=by
 have c1:=cell1 hb.hm;have c3:=cell1 hb.ho;have c4:w.cell? ⟨pB,7,none⟩=some vs:=(hb.hp.cell 7).trans hp;have HC:=aT (Ec (ow:=ow) l h1 I T w h Y U hm hN D);obtain⟨ua,uc,rfl,C⟩:=hm;unfold UA;clear C hb h Y U hp I T;go_enter func169,ntmps169;go_wp2_with fail;refine HC.mono ?_;rintro e w' ⟨rfl,v',Z,J,o5⟩;have HM:=aT Z;have HF:=aT J;have HO:=aT o5;clear Z J o5 HC;go_wp2_with fail;go_end0;exact⟨rfl,v',HM,HF,HO⟩
theorem BG{v:Value}{g:G}(l:List (Nat×Nat))(w:World)(h1:l.length<=4000)(I:l.Pairwise (λa b=>a.1<b.1))(T:∀p∈l,p.2<4294967296)(hm:Vy N w vs l)(hp:pc[8]? =some vs)
 (hb:TM w M ow a mB pB aB oB pc) (h:Zj LO M Bm w v g) (Y:V9 g) (U:GB (WG ow l g)) (hN:N<=LO) (D:LO<=w.heap.size):
 Calls prog 171 #[.pointer (some ⟨mB,0,none⟩),.pointer (some ⟨pB,0,none⟩),.pointer (some ⟨oB,0,none⟩)] w (UA LO M Bm ow g w (.subs l)):=by
 have c1:=cell1 hb.hm;have c3:=cell1 hb.ho;have c4:w.cell? ⟨pB,8,none⟩=some vs:=(hb.hp.cell 8).trans hp;have HC:=aT (Ec (ow:=ow) l h1 I T w h Y U hm hN D);obtain⟨ua,uc,rfl,C⟩:=hm;unfold UA;clear C hb h Y U hp I T;go_enter func171,ntmps171;go_wp2_with fail;refine HC.mono ?_;rintro e w' ⟨rfl,v',Z,J,o5⟩;have HM:=aT Z;have HF:=aT J;have HO:=aT o5;clear Z J o5 HC;go_wp2_with fail;go_end0;exact⟨rfl,v',HM,HF,HO⟩
theorem sk{LO M Bm N ow a mB pB aB oB:Nat}{pc:Array Value}{v:Value}{g:G}(x:VL)(w:World)(hd:Does N a mB pB aB oB pc w x)(hb:TM w M ow a mB pB aB oB pc)(h:Zj LO M Bm w v g)(Y:V9 g)(U:GB (VM ow x.2.2 g))(hN:N<=LO)(C:LO<=w.heap.size):
 Calls prog x.2.1.1 x.2.1.2 w (UA LO M Bm ow g w x.2.2):=by
 obtain⟨n,f,tp⟩:=x;cases tp with
 |rules wide rs=>
  obtain⟨rfl,I,J,T,eB,num,vr,rfl,D,h7⟩:=hd;exact BI rs w I J T D h7 hb h Y U hN C
 |subs l=>
  obtain⟨h1,I,J,vs,T,⟨Z,D⟩|⟨Z,D⟩⟩:=hd;·obtain rfl:f=_:=Z;exact BH l w h1 I J T D hb h Y U hN C
  ·obtain rfl:f=_:=Z;exact BG l w h1 I J T D hb h Y U hN C
structure X5 where
 d:Nat
 x:Bool
 (e0 e1 e2 e3 e4 s0 s1:Option Addr×Nat×Nat)
def VD(t:Option Addr×Nat×Nat):Value:=.slice t.1 t.2.1 t.2.2
def Zy(q:X5):Array Value:=#[.int .u32 q.d,.bool q.x,VD q.e0,VD q.e1,VD q.e2,VD q.e3,VD q.e4,VD q.s0,VD q.s1]
def X5.e(q:X5)(a:Nat):Option Addr×Nat×Nat:=if a=0 then q.e0 else if a=1 then q.e1 else if a=2 then q.e2 else if a=3 then q.e3 else q.e4
theorem lU(q:X5) (ha:a<5):(Zy q)[2+a]? =some (VD (q.e a)):=by
 rcases (show a=0\/a=1\/a=2\/a=3\/a=4 from jO) with rfl|rfl|rfl|rfl|rfl<;>rfl
def dc(e:Nat×List Z3):Prop:=e.1<4294967296/\O0 e.2/\e.2.length<=1000000/\∀r∈e.2,r.1.length<=1000000
def wZ(l:List (Nat×Nat)):Prop:=l.length<=4000/\l.Pairwise (λa b=>a.1<b.1)/\∀p∈l,p.2<4294967296
def Vr(a:Nat)(e:Nat×List Z3):Nat×ZM:=(e.1,.rules (decide (a≠2)) e.2)
def ZZ(a:Nat)(es:List (Nat×List Z3))(s0 s1:List (Nat×Nat)):List (Nat×ZM):=es.map (Vr a)++(if a=2 then [(102,.subs s0),(117,.subs s1)] else [])
structure Wx(N LO a mB pB aB oB:Nat)(pc:Array Value)(W:World)(v:Value)(n:Nat)(ds:List VL)(src:List (Nat×ZM)):Prop where
 own:W.ownsRow LO BJ 2 v n (ds.flatMap Rq)
 len:ds.length=n
 does:∀x∈ds,Does N a mB pB aB oB pc W x
 src:ds.map ghost=src
theorem TM.mono{W':World}(h:TM W M ow a mB pB aB oB pc)(hk:∀B t cs,t≠BJ->Z7 W B t cs->Z7 W' B t cs):TM W' M ow a mB pB aB oB pc:=
 ⟨hk _ _ _ jD h.hm,hk _ _ _ jD h.hp,hk _ _ _ jD h.ha,hk _ _ _ jD h.ho⟩
theorem KA{n:Nat}{v:Value}{ds:List VL}{src:List (Nat×ZM)}(hp:Wx N LO a mB pB aB oB pc W v n ds src)(hx:TM W M ow a mB pB aB oB pc)(hb:RowKit.Below LO w W)(hN:N<=LO)(hn:n<=10000):
 Calls prog 172 #[v,.func (.func 173) #[] #[]] W λe w'=>e=.returned (.tuple #[])/\∃D C,Wx N LO a mB pB aB oB pc w' v n D C/\TM w' M ow a mB pB aB oB pc/\RowKit.Below LO w w'/\C.Perm src/\C.Pairwise (λx y=>x.1<=y.1):=by
 have eg:∀args w,(callFunc 173 args).run prog w=.ok (.enter 173 args) w:=enters_of func173 jK rfl;have h:=Ol Tryz.sr 2 isAgg219 sizeOf219 Rq (λ_=>rfl) (λx v hv=>by simp[Rq] at hv;rcases hv with rfl|rfl<;>rfl) (λx y=>(x.1.val:Int)-(y.1.val:Int)) ag8 173 #[] eg (λx y W=>ag9 x y W) W hp.len hp.own jO;refine h.mono ?_;rintro e w' ⟨rfl,D,I,hsr,J,Y,_,Z⟩;have T:∀B t cs,t≠BJ->Z7 W B t cs->Z7 w' B t cs:=λB t cs ht h=>Z B _ h (YQ hp.own h (ame ht))
 refine⟨rfl,D,D.map ghost,⟨J,I.length_eq.trans hp.len,λx hx=>(hp.does x (I.mem_iff.1 hx)).mono (λB cs h=>T B _ cs jD h) Y hN,rfl⟩,hx.mono T,hb.trans Y,?_,?_⟩;·rw[<-hp.src];exact I.map ghost
 ·rw[afa];refine hsr.imp (λ{x y} U=> ?_);rw[lV] at U;show x.1.val<=y.1.val;simpa using U
theorem wY (q:X5)(es:List (Nat×List Z3))(s0 s1:List (Nat×Nat))(ha:a<5)(w:World)(he:WA N w (VD (q.e a)) es)(hec:∀e∈es,dc e)(tO:es.length<=4000)(hs0:Vy N w (VD q.s0) s0)(hs1:Vy N w (VD q.s1) s1)(hc0:wZ s0)(hc1:wZ s1)(hN:N<=w.heap.size):
 Calls prog 104 #[.pointer (some ⟨M,0,none⟩),.agg (Zy q),.int .i64 a,.int .i64 ow] w λe w'=>∃v mB pB aB oB ds src,e=.returned v/\Below w.heap.size w w'/\TM w' M ow a mB pB aB oB (Zy q)/\Wx N w.heap.size a mB pB aB oB (Zy q) w' v ds.length ds src/\src.Perm (ZZ a es s0 s1)/\src.Pairwise (λx y=>x.1<=y.1):=by
 obtain⟨A1,hA1⟩:∃A:Obj,A=.cells #[.pointer (some ⟨M,0,none⟩)] 132:=⟨_,rfl⟩;obtain⟨A2,sx⟩:∃A:Obj,A=.cells (Zy q) Xw:=⟨_,rfl⟩;obtain⟨A3,hA3⟩:∃A:Obj,A=.cells #[.int .i64 a] 3:=⟨_,rfl⟩;obtain⟨A4,hA4⟩:∃A:Obj,A=.cells #[.int .i64 ow] 3:=⟨_,rfl⟩;have b4:Below w.heap.size w ((((w.alloc A1).alloc A2).alloc A3).alloc A4):=(((((aG w.heap.size w).alloc (aR _) A1).alloc (by rw[aj];omega) A2).alloc (by rw[aj,aj];omega) A3).alloc (by rw[aj,aj,aj];omega) A4);have HBX:Hid (TM ((((w.alloc A1).alloc A2).alloc A3).alloc A4) M ow a w.heap.size (w.heap.size+1) (w.heap.size+1+1) (w.heap.size+1+1+1) (Zy q)):=by
  subst hA1 sx hA3 hA4;refine⟨(((Z7.new w _ _).alloc _).alloc _).alloc _,?_,?_,?_⟩;·have:=((Z7.new (w.alloc (.cells #[.pointer (some ⟨M,0,none⟩)] 132)) Xw (Zy q)).alloc (.cells #[.int .i64 a] 3)).alloc (.cells #[.int .i64 ow] 3);rwa [aj] at this
  ·have:=(Z7.new ((w.alloc (.cells #[.pointer (some ⟨M,0,none⟩)] 132)).alloc (.cells (Zy q) Xw)) 3 #[.int .i64 a]).alloc (.cells #[.int .i64 ow] 3);rwa [aj,aj] at this
  ·have:=(Z7.new (((w.alloc (.cells #[.pointer (some ⟨M,0,none⟩)] 132)).alloc (.cells (Zy q) Xw)).alloc (.cells #[.int .i64 a] 3)) 3 #[.int .i64 ow]);rwa [aj,aj,aj] at this
 have HE:=aT he;have HEC:=aT hec;have UB:=aT hs0;have Jn:=aT hs1;have Fl:=aT hc0;have zm:=aT hc1;have Ni:=aT b4;have gZ:∀(fn:Fn) (first cap:Array Value) (w:World),(Instr.makeFunc fn first cap).run prog w=.ok (.func fn first cap) w:=λ_ _ _ _=>rfl
 obtain⟨L,hL⟩:=jX es.length;have ah0:(q.e a).2.1=L:=by obtain⟨a1,c1,e1,_⟩:=he;unfold VD at e1;injection e1 with _ e2 _;rw[<-hL];exact e2
 rw[hL] at tO;have HL:=aT hL;have HEL:=aT ah0;subst hA1 sx hA3 hA4;clear he hec hs0 hs1 hc0 hc1 b4 hL ah0;unfold Zy VD at*;go_enter func104,ntmps104;go_upto_region 2 with fail;generalize (((w.alloc (.cells #[.pointer (some ⟨M,0,none⟩)] 132)).alloc (.cells #[.int .u32 q.d,.bool q.x,.slice q.e0.1 q.e0.2.1 q.e0.2.2,.slice q.e1.1 q.e1.2.1 q.e1.2.2,.slice q.e2.1 q.e2.2.1 q.e2.2.2,.slice q.e3.1 q.e3.2.1 q.e3.2.2,.slice q.e4.1 q.e4.2.1 q.e4.2.2,.slice q.s0.1 q.s0.2.1 q.s0.2.2,.slice q.s1.1 q.s1.2.1 q.s1.2.2] Xw)).alloc (.cells #[.int .i64 a] 3)).alloc (.cells #[.int .i64 ow] 3)=w4 at*;obtain⟨mB,hmB⟩:∃x,w.heap.size=x:=⟨_,rfl⟩;obtain⟨pB,hpB⟩:∃x,w.heap.size+1=x:=⟨_,rfl⟩;obtain⟨aB,haB⟩:∃x,w.heap.size+1+1=x:=⟨_,rfl⟩;obtain⟨oB,hoB⟩:∃x,w.heap.size+1+1+1=x:=⟨_,rfl⟩;rw[hoB,haB,hpB,hmB] at HBX;rw[hoB,haB,hpB,hmB];have HLO:Hid (w.heap.size=mB):=hmB;clear hmB hpB haB hoB;have ca:=cell1 HBX.ha;have cp:w4.cell? ⟨pB,2+a,none⟩=some (.slice (q.e a).1 L (q.e a).2.2):=by rw[<-HEL.out];exact(HBX.hp.cell (2+a)).trans (lU q ha)
 obtain⟨iP,hi,hz0,hz1,hz2⟩:=ZP df;have HE2:Hid (WA N w (.slice (q.e a).1 L (q.e a).2.2) es):=by rw[<-HEL.out];exact HE
 clear HE HEL;generalize (q.e a).1=ea at*;generalize (q.e a).2.2=ec at*;have az0:=jZ a;have az1:(a:Int)<5:=jO;go_upto_region 3 with fail;go_loopg [9,17] (L+1) (λgg vo iv wr=>∃(i:Nat) (ds:List VL),i<=L/\L-i<gg/\iv=.int .i64 (i:Int)/\Hid (Below w.heap.size w wr)/\Hid (TM wr M ow a mB pB aB oB (Zy q))/\Hid (Wx N w.heap.size a mB pB aB oB (Zy q) wr vo i ds ((es.take i).map (Vr a))));case atStart=>exact⟨0,[],abd _,jO,rfl,Ni,HBX,⟨Ya _ _ _ _,rfl,λx hx=>(by cases hx),rfl⟩⟩
 case round=>
  obtain⟨i,ds,sR,Vs,rfl,HB,cZ,T⟩:=hrel;clear Ni HBX ca cp;have i0:=jZ i;by_cases hlt:i<L
  ·have Zd:(i:Int)<(L:Int):=by omega
   obtain⟨en,hen⟩:∃en,es[i]? =some en:=⟨_,aL (by rw[HL.out];exact hlt)⟩;obtain⟨a2,c2,e2,hrow⟩:=HE2.out;injection e2 with e3 e6 e4;clear e6;subst e3 e4;obtain⟨gb,off,u,rfl,UW,c0,c1,hru⟩:=hrow i en hen;have y0:=ZY HB hN UW c0;have y1:=ZY HB hN UW c1;have Z:=hru.below HB hN;obtain⟨cY,cX,hrl,cW⟩:=HEC en (ag hen);obtain⟨num,rs⟩:=en;dsimp only at cY cX hrl cW y0 y1 hru Z;have at5:=Z;obtain⟨ra,rc,rfl,hzz⟩:=at5;clear hzz;have HEN:=aT hen;have HRU:=aT Z;have HRC:=aT (And.intro cX cW);have hbl:=HB.size;have Oi:=aT (Z7.new wr Oj #[.int .u32 num,.slice ra rs.length rc]);have Uj:=aT (HB.alloc hbl (.cells #[.int .u32 num,.slice ra rs.length rc] Oj));have Gg:=aT (cZ.mono (λB t cs _ h=>Z7.alloc h (.cells #[.int .u32 num,.slice ra rs.length rc] Oj)));have J:Hid (Wx N w.heap.size a mB pB aB oB (Zy q) (wr.alloc (.cells #[.int .u32 num,.slice ra rs.length rc] Oj)) u9 i ds ((es.take i).map (Vr a))):=⟨T.own.alloc _,T.len,λx hx=>(T.does x hx).mono (λB cs h=>Z7.alloc h _) ((aG N wr).alloc (aO hN hbl) _) (aR _),T.src⟩;have sj:=aT (Um.below ((aG N wr).alloc (aO hN hbl) (.cells #[.int .u32 num,.slice ra rs.length rc] Oj)) (aR _) Z);clear hrow c0 c1 hru Z hen cX cW HB cZ T HRU;obtain⟨va,vc,rfl⟩:=ZI J.own;go_upto_region 5 with fail;clear y0 y1;generalize wr.alloc (.cells #[.int .u32 num,.slice ra rs.length rc] Oj)=wa at*;generalize wr.heap.size=eB at*;have z0:wa.cell? ⟨eB,0,none⟩=some (.int .u32 num):=by simpa using Oi.out.cell 0
   have cV:=Uj.size;have HX:Hid (((ds++[(⟨num,cY⟩,(167,#[.pointer (some ⟨mB,0,none⟩),.pointer (some ⟨eB,0,none⟩),.pointer (some ⟨aB,0,none⟩),.pointer (some ⟨oB,0,none⟩)]),ZM.rules (decide (a≠2)) rs)]:List VL)).flatMap Rq=ds.flatMap Rq++[.int .u32 num,.func (.func 167) #[] #[.pointer (some ⟨mB,0,none⟩),.pointer (some ⟨eB,0,none⟩),.pointer (some ⟨aB,0,none⟩),.pointer (some ⟨oB,0,none⟩)]]):=by show _=_;rw[aca];rfl
   go_wp2_with (first|(refine Great.wpList_buildSliceTo rfl 216 BJ 1 _ rfl _ rfl _ rfl underlying216 #[.int .u32 num,.func (.func 167) #[] #[.pointer (some ⟨mB,0,none⟩),.pointer (some ⟨eB,0,none⟩),.pointer (some ⟨aB,0,none⟩),.pointer (some ⟨oB,0,none⟩)]] jK ?_)|(at_builtin;refine aea _ rfl _ _ 216 rfl w.heap.size BJ iP (.agg #[.int .u32 0,.nilFunc]) 2 16 underlying216 hi hz0 hz1 hz2 rfl jD _ i _ rfl (J.own.alloc _) ⟨wa.heap.size,0,none⟩ 1 1 [.int .u32 num,.func (.func 167) #[] #[.pointer (some ⟨mB,0,none⟩),.pointer (some ⟨eB,0,none⟩),.pointer (some ⟨aB,0,none⟩),.pointer (some ⟨oB,0,none⟩)]] rfl ?c1 ?c2 ?c3 ?c4 ?c5 ?c6 ?_;(case c1=>rfl);(case c2=>exact YX rfl);(case c3=>intro u hu;simp only[abb,ahd,arc] at hu;rcases hu with rfl|rfl<;>rfl);(case c4=>unfold maxLen;omega);(case c5=>omega);(case c6=>simp;omega);intro v' w6 C I _;obtain⟨sa,sc,rfl⟩:=ZI C;have HW:=aT C;have D:=aT (Zf (aeb wa _ _) I);clear C I))
   have Ck:=aT (Uj.grown D cV (λr e=>(J.own.lt r e).1));have lT:=aT (Gg.mono (λB t cs ht h=>Zc J.own D h (ame ht)));have tR:Below N wa w6:=(aG N wa).grown D (aO hN cV) (λr e=>aO hN (J.own.lt r e).1);have yZ:Hid (Wx N w.heap.size a mB pB aB oB (Zy q) w6 (.slice sa (i+1) sc) (i+1) (ds++[(⟨num,cY⟩,(167,#[.pointer (some ⟨mB,0,none⟩),.pointer (some ⟨eB,0,none⟩),.pointer (some ⟨aB,0,none⟩),.pointer (some ⟨oB,0,none⟩)]),ZM.rules (decide (a≠2)) rs)]) ((es.take (i+1)).map (Vr a))):=by
    refine⟨by rw[HX.out];exact HW,by rw[ay,J.out.len];rfl,λx hx=> ?_,?_⟩
    ·rcases abf.1 hx with hx|hx;·exact(J.does x hx).mono (λB cs h=>Zc J.own D h jD) tR (aR _)
     ·rw[aaa.1 hx];exact⟨rfl,HRC.1,hrl,HRC.2,eB,_,_,rfl,Zc J.own D Oi jD,sj.below tR (aR _)⟩
    ·rw[ada,J.out.src,afd,HEN.out,ada];rfl
   have iw:=jW i;clear z0 tR HW D HX Oi Uj Gg J sj;go_wp2_with fail;go_roundg (L-i);case measure=>omega
   case rel=>exact⟨i+1,_,jO,jO,by go_num,Ck,lT,yZ⟩
  ·obtain rfl:L=i:=by omega
   have Zd:¬(L:Int)<(L:Int):=jO;rw[abe (by rw[HL.out];exact aR _)] at T;have ca:=cell1 cZ.ha;obtain⟨va,vc,rfl⟩:=ZI T.own;by_cases ha2:a=2
   ·have cz:((a:Int) == 2)=true:=by rw[ahc];omega
    have hbl:=HB.size;have HX:Hid ((ds++[(⟨102,jD⟩,(169,#[.pointer (some ⟨mB,0,none⟩),.pointer (some ⟨pB,0,none⟩),.pointer (some ⟨oB,0,none⟩)]),ZM.subs s0),(⟨117,jD⟩,(171,#[.pointer (some ⟨mB,0,none⟩),.pointer (some ⟨pB,0,none⟩),.pointer (some ⟨oB,0,none⟩)]),ZM.subs s1)]:List VL).flatMap Rq=ds.flatMap Rq++[.int .u32 102,.func (.func 169) #[] #[.pointer (some ⟨mB,0,none⟩),.pointer (some ⟨pB,0,none⟩),.pointer (some ⟨oB,0,none⟩)],.int .u32 117,.func (.func 171) #[] #[.pointer (some ⟨mB,0,none⟩),.pointer (some ⟨pB,0,none⟩),.pointer (some ⟨oB,0,none⟩)]]):=by show _=_;rw[aca];rfl
    go_wp2_with (first|(refine Great.wpList_buildSliceTo rfl 216 BJ 2 _ rfl _ rfl _ rfl underlying216 #[.int .u32 102,.func (.func 169) #[] #[.pointer (some ⟨mB,0,none⟩),.pointer (some ⟨pB,0,none⟩),.pointer (some ⟨oB,0,none⟩)],.int .u32 117,.func (.func 171) #[] #[.pointer (some ⟨mB,0,none⟩),.pointer (some ⟨pB,0,none⟩),.pointer (some ⟨oB,0,none⟩)]] jK ?_)|(at_builtin;refine aea _ rfl _ _ 216 rfl w.heap.size BJ iP (.agg #[.int .u32 0,.nilFunc]) 2 16 underlying216 hi hz0 hz1 hz2 rfl jD _ L _ rfl (T.own.alloc _) ⟨wr.heap.size,0,none⟩ 2 2 [.int .u32 102,.func (.func 169) #[] #[.pointer (some ⟨mB,0,none⟩),.pointer (some ⟨pB,0,none⟩),.pointer (some ⟨oB,0,none⟩)],.int .u32 117,.func (.func 171) #[] #[.pointer (some ⟨mB,0,none⟩),.pointer (some ⟨pB,0,none⟩),.pointer (some ⟨oB,0,none⟩)]] rfl ?c1 ?c2 ?c3 ?c4 ?c5 ?c6 ?_;(case c1=>rfl);(case c2=>exact YX rfl);(case c3=>intro u hu;simp only[abb,ahd,arc] at hu;rcases hu with rfl|rfl|rfl|rfl<;>rfl);(case c4=>unfold maxLen;omega);(case c5=>omega);(case c6=>simp;omega);intro v' w6 C I _;obtain⟨sa,sc,rfl⟩:=ZI C;have HW:=aT C;have D:=aT (Zf (aeb wr _ _) I);clear C I)|(go_at_call 172;fail))
    have Ck:=aT (HB.grown D hbl (λr e=>(T.own.lt r e).1));have lT:=aT (cZ.mono (λB t cs ht h=>Zc T.own D h (ame ht)));have tR:Below N wr w6:=(aG N wr).grown D (aO hN hbl) (λr e=>aO hN (T.own.lt r e).1);have yZ:Hid (Wx N w.heap.size a mB pB aB oB (Zy q) w6 (.slice sa (L+2) sc) (L+2) (ds++[(⟨102,jD⟩,(169,#[.pointer (some ⟨mB,0,none⟩),.pointer (some ⟨pB,0,none⟩),.pointer (some ⟨oB,0,none⟩)]),ZM.subs s0),(⟨117,jD⟩,(171,#[.pointer (some ⟨mB,0,none⟩),.pointer (some ⟨pB,0,none⟩),.pointer (some ⟨oB,0,none⟩)]),ZM.subs s1)]) (ZZ a es s0 s1)):=by
     refine⟨by rw[HX.out];exact HW,by rw[ay,T.out.len];rfl,λx hx=> ?_,?_⟩
     ·rcases abf.1 hx with hx|hx;·exact(T.does x hx).mono (λB cs h=>Zc T.own D h jD) tR (aR _)
      ·have cU:Below N w w6:=(HB.mono hN).trans tR;rcases abb.1 hx with rfl|hx;·exact⟨Fl.1,Fl.2.1,Fl.2.2,VD q.s0,UB.below cU (aR _),.inl ⟨rfl,rfl⟩⟩
       ·rw[aaa.1 hx];exact⟨zm.1,zm.2.1,zm.2.2,VD q.s1,Jn.below cU (aR _),.inr ⟨rfl,rfl⟩⟩
     ·unfold ZZ;rw[aF ha2,ada,T.out.src];rfl
    have HC:=aT (KA yZ lT Ck hN jO);clear tR HW D HX T HB cZ yZ lT Ck ca;refine HC.mono ?_;rintro e w7 ⟨rfl,ds',src',hp,hx,hb,Y,U⟩;have HR:=aT (And.intro hb (And.intro hx (And.intro hp (And.intro Y U))));clear hb hx hp Y U HC;go_wp2_with fail;go_ret;obtain⟨hb,hx,hp,Y,U⟩:=HR.out;exact⟨_,mB,pB,aB,oB,ds',src',rfl,hb,hx,by rw[hp.len];exact hp,Y,U⟩
   ·have cz:((a:Int) == 2)=false:=by rw[af];omega
    have yZ:Hid (Wx N w.heap.size a mB pB aB oB (Zy q) wr (.slice va L vc) L ds (ZZ a es s0 s1)):=by refine⟨T.own,T.len,T.does,?_⟩;unfold ZZ;rw[aN ha2,adb];exact T.src
    have HC:=aT (KA yZ cZ HB hN jO);clear T HB cZ yZ;go_wp2_with fail;refine HC.mono ?_;rintro e w7 ⟨rfl,ds',src',hp,hx,hb,Y,U⟩;have HR:=aT (And.intro hb (And.intro hx (And.intro hp (And.intro Y U))));clear hb hx hp Y U HC ca;go_wp2_with fail;go_ret;obtain⟨hb,hx,hp,Y,U⟩:=HR.out;exact⟨_,mB,pB,aB,oB,ds',src',rfl,hb,hx,by rw[hp.len];exact hp,Y,U⟩
theorem si(V M:BitVec 64):V &&& ~~~M=0#64↔V &&& M=V:=by
 constructor
 ·intro h
  ext i hi
  have C:=ax (λz=>z.getLsbD i) h;simp[hi] at C ⊢;cases hv:V[i]<;>cases hm:M[i]<;>simp_all
 ·intro h
  ext i hi
  have C:=ax (λz=>z.getLsbD i) h;simp[hi] at C ⊢;cases hv:V[i]<;>cases hm:M[i]<;>simp_all
theorem MA{v m:Nat}(hv:v<YN)(hm:m<YN):bits .andNot .u64 (v:Int) (m:Int)=0↔(v &&& m)=v:=by
 have e1:(YN:Nat)=2 ^ 64:=jD;show IntKind.u64.wrap ((BitVec.ofInt 64 (v:Int) &&& ~~~ BitVec.ofInt 64 (m:Int)).toNat:Int)=0↔_;rw[BitVec.ofInt_natCast,BitVec.ofInt_natCast];have I:=(BitVec.ofNat 64 v &&& ~~~ BitVec.ofNat 64 m).isLt;have C:=si (BitVec.ofNat 64 v) (BitVec.ofNat 64 m);have hw:IntKind.u64.wrap ((BitVec.ofNat 64 v &&& ~~~ BitVec.ofNat 64 m).toNat:Int)=((BitVec.ofNat 64 v &&& ~~~ BitVec.ofNat 64 m).toNat:Int):=by rw[IntKind.wrap_u64];omega
 rw[hw];have a:((BitVec.ofNat 64 v &&& ~~~ BitVec.ofNat 64 m).toNat:Int)=0↔BitVec.ofNat 64 v &&& ~~~ BitVec.ofNat 64 m=0#64:=by
  constructor;·intro h;apply BitVec.eq_of_toNat_eq;have:(BitVec.ofNat 64 v &&& ~~~ BitVec.ofNat 64 m).toNat=0:=jO;rw[this];rfl
  ·intro h;rw[h];rfl
 have b:BitVec.ofNat 64 v &&& BitVec.ofNat 64 m=BitVec.ofNat 64 v↔(v &&& m)=v:=by
  constructor;·intro h;have D:=ax BitVec.toNat h;rw[BitVec.toNat_and,azd,azd,alg jO,alg jO] at D;exact D
  ·intro h;apply BitVec.eq_of_toNat_eq;rw[BitVec.toNat_and,azd,azd,alg jO,alg jO];exact h
 exact a.trans (C.trans b)
def cC(c:Z5):Array Value:=#[.int .i64 c.a,.int .i64 c.o,.int .u64 c.m,.int .u64 c.v]
def np:Yq->Z5
 | .asks c=>c
 | .always=>⟨0,0,0,0⟩
 | .never=>⟨0,0,0,0⟩
def cT:Yq->Int
 | .asks _=>0
 | .always=>1
 | .never=>2
def V2(s:Yq)(w:World):Ending->World->Prop:=λe w'=>e=.returned (.tuple #[.agg #[.int .i64 ((np s).a:Int),.int .i64 ((np s).o:Int),.int .u64 ((np s).m:Int),.int .u64 ((np s).v:Int)],.int .i64 (cT s)])/\Below w.heap.size w w'
theorem Z7.OY(W:World)(o:Obj)(t:TypeId)(cs:Array Value):Z7 ((W.alloc o).alloc (.cells cs t)) (W.heap.size+1) t cs:=by
 have h:=Z7.new (W.alloc o) t cs;rwa [aj] at h
theorem Z7.ah1(W:World)(o C:Obj)(t:TypeId)(cs:Array Value):Z7 (((W.alloc o).alloc C).alloc (.cells cs t)) (W.heap.size+2) t cs:=by
 have h:=Z7.OY (W.alloc o) C t cs;rwa [aj] at h
theorem Yx(W:World)(o:Obj):Below W.heap.size W (W.alloc o):=(aG _ W).alloc (aR _) _
theorem Kz(W:World)(o C:Obj):Below W.heap.size W ((W.alloc o).alloc C):=(Yx W o).alloc jS _
theorem ah2(W:World)(o C D:Obj):Below W.heap.size W (((W.alloc o).alloc C).alloc D):=(Kz W o C).alloc (by simp;omega) _
theorem Zt{fn:Func}{t u:Tmp}(h:fn.results=#[.cell t 68,.tmp u]){tmps:Array Value}{c0 c1:Value}(hb:Z7 W R 68 #[c0,c1,c2,c3])(ht:tmps.getD t undef=.pointer (some ⟨R,0,none⟩)):(results fn tmps).run prog W=.ok (.tuple #[.agg #[c0,c1,c2,c3],tmps.getD u undef]) W:=by
 have e0:=hb.cell 0;have e1:=hb.cell 1;have e2:=hb.cell 2;have e3:=hb.cell 3;rw[ajb] at ht;simp at e0 e1 e2 e3;simp[results,h,go_sem,ht,e0,e1,e2,e3]
theorem ZF {t:Nat}{c0 c1:Value}(hb:Z7 W R t #[c0,c1,c2,c3])(C D I J:Value):Z7 ((((W.setCell ⟨R,0,none⟩ C).setCell ⟨R,1,none⟩ D).setCell ⟨R,2,none⟩ I).setCell ⟨R,3,none⟩ J) R t #[C,D,I,J]:=(((hb.set 0 C).set 1 D).set 2 I).set 3 J
theorem ZE {n:Nat}(hb:Below n w W)(h:n<=R)(C D I J:Value):Below n w ((((W.setCell ⟨R,0,none⟩ C).setCell ⟨R,1,none⟩ D).setCell ⟨R,2,none⟩ I).setCell ⟨R,3,none⟩ J):=(((hb.setCell (p:=⟨R,0,none⟩) h C).setCell (p:=⟨R,1,none⟩) h D).setCell (p:=⟨R,2,none⟩) h I).setCell (p:=⟨R,3,none⟩) h J
theorem Z8 {t:Nat}{c0 c1:Value}(hb:Z7 W R t #[c0,c1,c2,c3]):(W.cell? ⟨R,0,none⟩=some c0/\W.cell? ⟨R,1,none⟩=some c1/\W.cell? ⟨R,2,none⟩=some c2/\W.cell? ⟨R,3,none⟩=some c3)/\W.frozen? ⟨R,0,none⟩=false/\W.frozen? ⟨R,1,none⟩=false/\W.frozen? ⟨R,2,none⟩=false/\W.frozen? ⟨R,3,none⟩=false:=by
 obtain⟨e0,e1,e2,e3⟩:=hb.q4;exact⟨⟨e0,e1,e2,e3⟩,hb.frozen 0,hb.frozen 1,hb.frozen 2,hb.frozen 3⟩
theorem QM(b:Bool)(w:World):Calls prog 216 #[.bool b] w (V2 (if b then .always else .never) w):=by
 cases b with
 |true=>
  go_enter func216,ntmps216;go_wp2_with fail;refine aaf (Zt rfl (Z7.new w _ _) rfl) rfl ?_;exact⟨rfl,Yx w _⟩
 |false=>
  go_enter func216,ntmps216;go_wp2_with fail;refine aaf (Zt rfl (Z7.new w _ _) rfl) rfl ?_;exact⟨rfl,Yx w _⟩
theorem Uz(c:Z5)(op u:Nat)(w:World):Calls prog 340 #[.agg (cC c),.int .i64 op,.int .u64 u] w (V2 (.asks ⟨c.a,op,0,u⟩) w):=by
 obtain⟨a,o,m,v⟩:=c;unfold cC;dsimp only;go_enter func340,ntmps340;go_wp2_with fail;refine aaf (Zt rfl (Z7.OY _ _ _ _) rfl) rfl ?_;exact⟨rfl,Kz w _ _⟩
theorem Xb(c:Z5)(w:World)(t:Nat):Hid (Z7 ((w.alloc (.cells (cC c) t)).alloc (.cells #[.int .i64 0,.int .i64 0,.int .u64 0,.int .u64 0] t)) w.heap.size t (cC c))/\Hid (Z7 ((w.alloc (.cells (cC c) t)).alloc (.cells #[.int .i64 0,.int .i64 0,.int .u64 0,.int .u64 0] t)) (w.heap.size+1) t #[.int .i64 0,.int .i64 0,.int .u64 0,.int .u64 0])/\Hid (Below w.heap.size w ((w.alloc (.cells (cC c) t)).alloc (.cells #[.int .i64 0,.int .i64 0,.int .u64 0,.int .u64 0] t))):=
 ⟨(Z7.new w _ _).alloc _,Z7.OY _ _ _ _,Kz w _ _⟩
theorem Ky(c:Z5)(u:Nat)(w:World):Calls prog 287 #[.agg (cC c),.int .u64 u] w (V2 (Ye c u) w):=by
 generalize hS:Ye c u=S;have Z:=aT hS;clear hS;obtain⟨HP,I,J⟩:=Xb c w 68;have HC:=aT (λop u W=>Uz c op u W);obtain⟨a,o,m,v⟩:=c;unfold cC at*;dsimp only at*;go_enter func287,ntmps287;go_upto_region 1 with fail;generalize (w.alloc (.cells #[.int .i64 a,.int .i64 o,.int .u64 m,.int .u64 v] 68)).alloc (.cells #[.int .i64 0,.int .i64 0,.int .u64 0,.int .u64 0] 68)=w1 at*;obtain⟨⟨p0,p1,p2,p3⟩,_⟩:=Z8 HP;obtain⟨R,hR⟩:=jX (w.heap.size+1);rw[hR] at I ⊢;have T:w.heap.size<=R:=jO;clear hR;by_cases U:u=0
 ·subst U;go_wp2_with fail;refine(QM false w1).mono ?_;rintro e w2 ⟨rfl,hb⟩;have C:=aT (I.below hb I.lt);have D:=aT (J.trans (hb.mono J.size));obtain⟨⟨r0,r1,r2,r3⟩,f0,f1,f2,f3⟩:=Z8 C;clear hb I J;go_wp2_with fail;refine aaf (Zt rfl (ZF C _ _ _ _) rfl) rfl ?_;exact⟨by rw[<-Z.out];first|(unfold Ye;rw[aF rfl];rfl)|(unfold Xy;rw[aF rfl];rfl)|(unfold WC;rw[aF rfl];rfl)|(rw[aF rfl];rfl),ZE D T _ _ _ _⟩
 ·have h0':((u:Int) == 0)=false:=by rw[af];omega
  by_cases Y:u=1;·subst Y;go_wp2_with fail;refine(HC 1 0 w1).mono ?_;rintro e w2 ⟨rfl,hb⟩;have C:=aT (I.below hb I.lt);have D:=aT (J.trans (hb.mono J.size));obtain⟨⟨r0,r1,r2,r3⟩,f0,f1,f2,f3⟩:=Z8 C;clear hb I J;go_wp2_with fail;refine aaf (Zt rfl (ZF C _ _ _ _) rfl) rfl ?_;exact⟨by rw[<-Z.out];first|(unfold Ye;rw[aN jD,aF rfl];rfl)|(unfold Xy;rw[aN jD,aF rfl];rfl)|(unfold WC;rw[aN jD,aF rfl];rfl)|(rw[aN jD,aF rfl];rfl),ZE D T _ _ _ _⟩
  ·have h1':((u:Int) == 1)=false:=by rw[af];omega
   go_wp2_with fail;refine(HC 3 u w1).mono ?_;rintro e w2 ⟨rfl,hb⟩;have C:=aT (I.below hb I.lt);have D:=aT (J.trans (hb.mono J.size));obtain⟨⟨r0,r1,r2,r3⟩,f0,f1,f2,f3⟩:=Z8 C;clear hb I J;go_wp2_with fail;refine aaf (Zt rfl (ZF C _ _ _ _) rfl) rfl ?_;exact⟨by rw[<-Z.out];first|(unfold Ye;rw[aN U,aN Y];rfl)|(unfold Xy;rw[aN U,aN Y];rfl)|(unfold WC;rw[aN U,aN Y];rfl)|(rw[aN U,aN Y];rfl),ZE D T _ _ _ _⟩
theorem Iy(c:Z5)(u:Nat)(w:World):Calls prog 289 #[.agg (cC c),.int .u64 u] w (V2 (Xy c u) w):=by
 generalize hS:Xy c u=S;have HS:=aT hS;clear hS;obtain⟨HP,I,J⟩:=Xb c w 68;have HC:=aT (λop u W=>Uz c op u W);obtain⟨a,o,m,v⟩:=c;unfold cC at*;dsimp only at*;go_enter func289,ntmps289;go_upto_region 1 with fail;generalize (w.alloc (.cells #[.int .i64 a,.int .i64 o,.int .u64 m,.int .u64 v] 68)).alloc (.cells #[.int .i64 0,.int .i64 0,.int .u64 0,.int .u64 0] 68)=w1 at*;obtain⟨⟨p0,p1,p2,p3⟩,_⟩:=Z8 HP;obtain⟨R,hR⟩:=jX (w.heap.size+1);rw[hR] at I ⊢;have Y:w.heap.size<=R:=jO;clear hR;by_cases T:u=0
 ·subst T;go_wp2_with fail;refine(QM true w1).mono ?_;rintro e w2 ⟨rfl,hb⟩;have C:=aT (I.below hb I.lt);have D:=aT (J.trans (hb.mono J.size));obtain⟨⟨r0,r1,r2,r3⟩,f0,f1,f2,f3⟩:=Z8 C;clear hb I J;go_wp2_with fail;refine aaf (Zt rfl (ZF C _ _ _ _) rfl) rfl ?_;exact⟨by rw[<-HS.out];first|(unfold Ye;rw[aF rfl];rfl)|(unfold Xy;rw[aF rfl];rfl)|(unfold WC;rw[aF rfl];rfl)|(rw[aF rfl];rfl),ZE D Y _ _ _ _⟩
 ·have h0':((u:Int) == 0)=false:=by rw[af];omega
  by_cases Z:u=YN-1
  ·have h1':((u:Int) == 18446744073709551615)=true:=by rw[ahc,Z];unfold YN;omega
   have U:=aT Z;clear Z;go_wp2_with fail;refine(HC 1 u w1).mono ?_;rintro e w2 ⟨rfl,hb⟩;have C:=aT (I.below hb I.lt);have D:=aT (J.trans (hb.mono J.size));obtain⟨⟨r0,r1,r2,r3⟩,f0,f1,f2,f3⟩:=Z8 C;clear hb I J;go_wp2_with fail;refine aaf (Zt rfl (ZF C _ _ _ _) rfl) rfl ?_;exact⟨by rw[<-HS.out];first|(unfold Ye;rw[aN T,aF U.out];rfl)|(unfold Xy;rw[aN T,aF U.out];rfl)|(unfold WC;rw[aN T,aF U.out];rfl)|(rw[aN T,aF U.out];rfl),ZE D Y _ _ _ _⟩
  ·have h1':((u:Int) == 18446744073709551615)=false:=by
    rw[af];intro e;apply Z;unfold YN;omega
   have U:=aT Z;clear Z;go_wp2_with fail;refine(HC 6 u w1).mono ?_;rintro e w2 ⟨rfl,hb⟩;have C:=aT (I.below hb I.lt);have D:=aT (J.trans (hb.mono J.size));obtain⟨⟨r0,r1,r2,r3⟩,f0,f1,f2,f3⟩:=Z8 C;clear hb I J;go_wp2_with fail;refine aaf (Zt rfl (ZF C _ _ _ _) rfl) rfl ?_;exact⟨by rw[<-HS.out];first|(unfold Ye;rw[aN T,aN U.out];rfl)|(unfold Xy;rw[aN T,aN U.out];rfl)|(unfold WC;rw[aN T,aN U.out];rfl)|(rw[aN T,aN U.out];rfl),ZE D Y _ _ _ _⟩
theorem wX(c:Z5)(hm:c.m<YN)(hv:c.v<YN)(w:World):Calls prog 285 #[.agg (cC c)] w (V2 (WC c) w):=by
 generalize hS:WC c=S;have HS:=aT hS;clear hS;obtain⟨HP,J,U⟩:=Xb c w 68;have HC:=aT (λop u W=>Uz c op u W);have hk:=MA hv hm;obtain⟨a,o,m,v⟩:=c;unfold cC at*;dsimp only at*;go_enter func285,ntmps285;go_upto_region 1 with fail;generalize (w.alloc (.cells #[.int .i64 a,.int .i64 o,.int .u64 m,.int .u64 v] 68)).alloc (.cells #[.int .i64 0,.int .i64 0,.int .u64 0,.int .u64 0] 68)=w1 at*;obtain⟨⟨p0,p1,p2,p3⟩,_⟩:=Z8 HP;obtain⟨R,hR⟩:=jX (w.heap.size+1);rw[hR] at J ⊢;have Y:w.heap.size<=R:=jO;clear hR;by_cases h0:bits .andNot .u64 (v:Int) (m:Int)=0
 ·have hn:¬(v &&& m)≠v:=λe=>e (hk.1 h0)
  have C:=aT hn;have mi:(bits .andNot .u64 (v:Int) (m:Int) != 0)=false:=by simpa using h0
  clear hn hk;by_cases h1:m=0
  ·have h1z:((m:Int) == 0)=true:=by rw[ahc];omega
   have I:=aT h1;clear h1;go_wp2_with fail;refine(QM true w1).mono ?_;rintro e w2 ⟨rfl,hb⟩;have D:=aT (J.below hb J.lt);have T:=aT (U.trans (hb.mono U.size));obtain⟨⟨r0,r1,r2,r3⟩,f0,f1,f2,f3⟩:=Z8 D;clear hb J U;go_wp2_with fail;refine aaf (Zt rfl (ZF D _ _ _ _) rfl) rfl ?_;exact⟨by rw[<-HS.out];first|(unfold Ye;rw[aN C.out,aF I.out];rfl)|(unfold Xy;rw[aN C.out,aF I.out];rfl)|(unfold WC;rw[aN C.out,aF I.out];rfl)|(rw[aN C.out,aF I.out];rfl),ZE T Y _ _ _ _⟩
  ·have h1z:((m:Int) == 0)=false:=by rw[af];omega
   have I:=aT h1;clear h1;by_cases h2:m=YN-1
   ·have h2z:((m:Int) == 18446744073709551615)=true:=by rw[ahc,h2];unfold YN;omega
    have Z:=aT h2;clear h2;go_wp2_with fail;refine(HC 1 v w1).mono ?_;rintro e w2 ⟨rfl,hb⟩;have D:=aT (J.below hb J.lt);have T:=aT (U.trans (hb.mono U.size));obtain⟨⟨r0,r1,r2,r3⟩,f0,f1,f2,f3⟩:=Z8 D;clear hb J U;go_wp2_with fail;refine aaf (Zt rfl (ZF D _ _ _ _) rfl) rfl ?_;exact⟨by rw[<-HS.out];first|(unfold Ye;rw[aN C.out,aN I.out,aF Z.out];rfl)|(unfold Xy;rw[aN C.out,aN I.out,aF Z.out];rfl)|(unfold WC;rw[aN C.out,aN I.out,aF Z.out];rfl)|(rw[aN C.out,aN I.out,aF Z.out];rfl),ZE T Y _ _ _ _⟩
   ·have h2z:((m:Int) == 18446744073709551615)=false:=by rw[af];intro e;apply h2;unfold YN;omega
    have Z:=aT h2;clear h2;obtain⟨⟨r0,r1,r2,r3⟩,f0,f1,f2,f3⟩:=Z8 J;go_wp2_with fail;refine aaf (Zt rfl (ZF J _ _ _ _) rfl) rfl ?_;exact⟨by rw[<-HS.out];first|(unfold Ye;rw[aN C.out,aN I.out,aN Z.out];rfl)|(unfold Xy;rw[aN C.out,aN I.out,aN Z.out];rfl)|(unfold WC;rw[aN C.out,aN I.out,aN Z.out];rfl)|(rw[aN C.out,aN I.out,aN Z.out];rfl),ZE U Y _ _ _ _⟩
 ·have hn:(v &&& m)≠v:=λe=>h0 (hk.2 e)
  have C:=aT hn;have mi:(bits .andNot .u64 (v:Int) (m:Int) != 0)=true:=by simpa using h0
  clear hn hk;go_wp2_with fail;refine(QM false w1).mono ?_;rintro e w2 ⟨rfl,hb⟩;have D:=aT (J.below hb J.lt);have T:=aT (U.trans (hb.mono U.size));obtain⟨⟨r0,r1,r2,r3⟩,f0,f1,f2,f3⟩:=Z8 D;clear hb J U;go_wp2_with fail;refine aaf (Zt rfl (ZF D _ _ _ _) rfl) rfl ?_;exact⟨by rw[<-HS.out];first|(unfold Ye;rw[aF C.out];rfl)|(unfold Xy;rw[aF C.out];rfl)|(unfold WC;rw[aF C.out];rfl)|(rw[aF C.out];rfl),ZE T Y _ _ _ _⟩
theorem yY(c:Z5)(w:World):Calls prog 284 #[.agg (cC c)] w (V2 (.asks c) w):=by
 obtain⟨T,C,J⟩:=Xb c w 68;have HC:=aT (λop u W=>Uz c op u W);obtain⟨a,o,m,v⟩:=c;unfold cC at*;dsimp only at*;go_enter func284,ntmps284;go_upto_region 1 with fail;generalize (w.alloc (.cells #[.int .i64 a,.int .i64 o,.int .u64 m,.int .u64 v] 68)).alloc (.cells #[.int .i64 0,.int .i64 0,.int .u64 0,.int .u64 0] 68)=w1 at*;obtain⟨⟨p0,p1,p2,p3⟩,_⟩:=Z8 T;obtain⟨R,I⟩:=jX (w.heap.size+1);rw[I] at C ⊢;have D:w.heap.size<=R:=jO;clear I;obtain⟨⟨r0,r1,r2,r3⟩,f0,Z,Y,U⟩:=Z8 C;go_wp2_with fail;refine aaf (Zt rfl (ZF C _ _ _ _) rfl) rfl ?_;exact⟨rfl,ZE J D _ _ _ _⟩
theorem lS(c:Z5)(w:World):Calls prog 286 #[.agg (cC c)] w (V2 (Ye c c.v) w):=by
 obtain⟨Z,D,I⟩:=Xb c w 68;have HC:=aT (λop u W=>Uz c op u W);have Y:=aT (λu W=>Ky c u W);obtain⟨a,o,m,v⟩:=c;unfold cC at*;dsimp only at*;go_enter func286,ntmps286;go_upto_region 1 with fail;generalize (w.alloc (.cells #[.int .i64 a,.int .i64 o,.int .u64 m,.int .u64 v] 68)).alloc (.cells #[.int .i64 0,.int .i64 0,.int .u64 0,.int .u64 0] 68)=w1 at*;obtain⟨⟨p0,p1,p2,p3⟩,_⟩:=Z8 Z;obtain⟨R,U⟩:=jX (w.heap.size+1);rw[U] at D ⊢;have J:w.heap.size<=R:=jO;clear U;go_wp2_with fail;refine(Y v w1).mono ?_;rintro e w2 ⟨rfl,hb⟩;have C:=aT (D.below hb D.lt);have T:=aT (I.trans (hb.mono I.size));obtain⟨⟨r0,r1,r2,r3⟩,f0,f1,f2,f3⟩:=Z8 C;clear hb D I;go_wp2_with fail;refine aaf (Zt rfl (ZF C _ _ _ _) rfl) rfl ?_;exact⟨rfl,ZE T J _ _ _ _⟩
theorem lR(c:Z5)(w:World):Calls prog 288 #[.agg (cC c)] w (V2 (Xy c c.v) w):=by
 obtain⟨Z,D,I⟩:=Xb c w 68;have HC:=aT (λop u W=>Uz c op u W);have Y:=aT (λu W=>Iy c u W);obtain⟨a,o,m,v⟩:=c;unfold cC at*;dsimp only at*;go_enter func288,ntmps288;go_upto_region 1 with fail;generalize (w.alloc (.cells #[.int .i64 a,.int .i64 o,.int .u64 m,.int .u64 v] 68)).alloc (.cells #[.int .i64 0,.int .i64 0,.int .u64 0,.int .u64 0] 68)=w1 at*;obtain⟨⟨p0,p1,p2,p3⟩,_⟩:=Z8 Z;obtain⟨R,U⟩:=jX (w.heap.size+1);rw[U] at D ⊢;have J:w.heap.size<=R:=jO;clear U;go_wp2_with fail;refine(Y v w1).mono ?_;rintro e w2 ⟨rfl,hb⟩;have C:=aT (D.below hb D.lt);have T:=aT (I.trans (hb.mono I.size));obtain⟨⟨r0,r1,r2,r3⟩,f0,f1,f2,f3⟩:=Z8 C;clear hb D I;go_wp2_with fail;refine aaf (Zt rfl (ZF C _ _ _ _) rfl) rfl ?_;exact⟨rfl,ZE T J _ _ _ _⟩
theorem lQ(c:Z5)(hv:c.v<YN)(w:World):Calls prog 290 #[.agg (cC c)] w (V2 (if c.v=YN-1 then .always else Ye c (c.v+1)) w):=by
 generalize hS:(if c.v=YN-1 then Yq.always else Ye c (c.v+1))=S;have HS:=aT hS;clear hS;obtain⟨HP,D,J⟩:=Xb c w 68;have HC:=aT (λop u W=>Uz c op u W);have HU:=aT (λu W=>Ky c u W);obtain⟨a,o,m,v⟩:=c;unfold cC at*;dsimp only at*;go_enter func290,ntmps290;go_upto_region 1 with fail;generalize (w.alloc (.cells #[.int .i64 a,.int .i64 o,.int .u64 m,.int .u64 v] 68)).alloc (.cells #[.int .i64 0,.int .i64 0,.int .u64 0,.int .u64 0] 68)=w1 at*;obtain⟨⟨p0,p1,p2,p3⟩,_⟩:=Z8 HP;obtain⟨R,hR⟩:=jX (w.heap.size+1);rw[hR] at D ⊢;have Y:w.heap.size<=R:=jO;clear hR;by_cases U:v=YN-1
 ·have Z:((v:Int) == 18446744073709551615)=true:=by rw[ahc,U];unfold YN;omega
  have T:=aT U;clear U hv;go_wp2_with fail;refine(QM true w1).mono ?_;rintro e w2 ⟨rfl,hb⟩;have C:=aT (D.below hb D.lt);have I:=aT (J.trans (hb.mono J.size));obtain⟨⟨r0,r1,r2,r3⟩,f0,f1,f2,f3⟩:=Z8 C;clear hb D J;go_wp2_with fail;refine aaf (Zt rfl (ZF C _ _ _ _) rfl) rfl ?_;exact⟨by rw[<-HS.out];first|(unfold Ye;rw[aF T.out];rfl)|(unfold Xy;rw[aF T.out];rfl)|(unfold WC;rw[aF T.out];rfl)|(rw[aF T.out];rfl),ZE I Y _ _ _ _⟩
 ·have hv2:v+1<18446744073709551616:=by unfold YN at hv U;omega
  have Z:((v:Int) == 18446744073709551615)=false:=by rw[af];omega
  have iw:IntKind.u64.wrap ((v:Int)+1)=((v+1:Nat):Int):=by rw[aug _ jO];omega
  obtain⟨x,hx⟩:=jX (v+1);rw[hx] at iw;have HX:=aT hx;have T:=aT U;clear hx hv hv2 U;go_wp2_with fail;refine(HU x w1).mono ?_;rintro e w2 ⟨rfl,hb⟩;have C:=aT (D.below hb D.lt);have I:=aT (J.trans (hb.mono J.size));obtain⟨⟨r0,r1,r2,r3⟩,f0,f1,f2,f3⟩:=Z8 C;clear hb D J;go_wp2_with fail;refine aaf (Zt rfl (ZF C _ _ _ _) rfl) rfl ?_;exact⟨by rw[<-HS.out,aN T.out,HX.out];rfl,ZE I Y _ _ _ _⟩
theorem lO(c:Z5)(hv:c.v<YN)(w:World):Calls prog 291 #[.agg (cC c)] w (V2 (if c.v=YN-1 then .never else Xy c (c.v+1)) w):=by
 generalize hS:(if c.v=YN-1 then Yq.never else Xy c (c.v+1))=S;have HS:=aT hS;clear hS;obtain⟨HP,D,J⟩:=Xb c w 68;have HC:=aT (λop u W=>Uz c op u W);have HU:=aT (λu W=>Iy c u W);obtain⟨a,o,m,v⟩:=c;unfold cC at*;dsimp only at*;go_enter func291,ntmps291;go_upto_region 1 with fail;generalize (w.alloc (.cells #[.int .i64 a,.int .i64 o,.int .u64 m,.int .u64 v] 68)).alloc (.cells #[.int .i64 0,.int .i64 0,.int .u64 0,.int .u64 0] 68)=w1 at*;obtain⟨⟨p0,p1,p2,p3⟩,_⟩:=Z8 HP;obtain⟨R,hR⟩:=jX (w.heap.size+1);rw[hR] at D ⊢;have Y:w.heap.size<=R:=jO;clear hR;by_cases U:v=YN-1
 ·have Z:((v:Int) == 18446744073709551615)=true:=by rw[ahc,U];unfold YN;omega
  have T:=aT U;clear U hv;go_wp2_with fail;refine(QM false w1).mono ?_;rintro e w2 ⟨rfl,hb⟩;have C:=aT (D.below hb D.lt);have I:=aT (J.trans (hb.mono J.size));obtain⟨⟨r0,r1,r2,r3⟩,f0,f1,f2,f3⟩:=Z8 C;clear hb D J;go_wp2_with fail;refine aaf (Zt rfl (ZF C _ _ _ _) rfl) rfl ?_;exact⟨by rw[<-HS.out];first|(unfold Ye;rw[aF T.out];rfl)|(unfold Xy;rw[aF T.out];rfl)|(unfold WC;rw[aF T.out];rfl)|(rw[aF T.out];rfl),ZE I Y _ _ _ _⟩
 ·have hv2:v+1<18446744073709551616:=by unfold YN at hv U;omega
  have Z:((v:Int) == 18446744073709551615)=false:=by rw[af];omega
  have iw:IntKind.u64.wrap ((v:Int)+1)=((v+1:Nat):Int):=by rw[aug _ jO];omega
  obtain⟨x,hx⟩:=jX (v+1);rw[hx] at iw;have HX:=aT hx;have T:=aT U;clear hx hv hv2 U;go_wp2_with fail;refine(HU x w1).mono ?_;rintro e w2 ⟨rfl,hb⟩;have C:=aT (D.below hb D.lt);have I:=aT (J.trans (hb.mono J.size));obtain⟨⟨r0,r1,r2,r3⟩,f0,f1,f2,f3⟩:=Z8 C;clear hb D J;go_wp2_with fail;refine aaf (Zt rfl (ZF C _ _ _ _) rfl) rfl ?_;exact⟨by rw[<-HS.out,aN T.out,HX.out];rfl,ZE I Y _ _ _ _⟩
def Nh:List (Value×Value):=[(.int .i64 1,(.func (.func 284) #[] #[])),(.int .i64 2,(.func (.func 284) #[] #[])),(.int .i64 7,(.func (.func 285) #[] #[])),(.int .i64 3,(.func (.func 286) #[] #[])),(.int .i64 6,(.func (.func 288) #[] #[])),(.int .i64 4,(.func (.func 290) #[] #[])),(.int .i64 5,(.func (.func 291) #[] #[]))]
def Mz(o:Nat):Nat:=if o=1\/o=2 then 284 else if o=3 then 286 else if o=4 then 290 else if o=5 then 291 else if o=6 then 288 else 285
theorem sf:Keyed prog 3:=int_keyed underlying3
theorem ah3(n:Int)(h: -9223372036854775808<=n/\n<=9223372036854775807):∃l,keyOf prog 3 (.int .i64 n)=some l:=⟨_,keyOf_int_mk underlying3 (by
 show(decide (IntKind.i64.min<=n)&&decide (n<=IntKind.i64.max))=true;rw[show IntKind.i64.min= -9223372036854775808 from jD,show IntKind.i64.max=9223372036854775807 from jD];simp only[aef,adf];exact h)⟩
theorem se (h:1<=o/\o<=7):((Value.int .i64 o,Value.func (.func (Mz o)) #[] #[]):Value×Value)∈Nh:=by
 rcases (show o=1\/o=2\/o=3\/o=4\/o=5\/o=6\/o=7 from jO) with rfl|rfl|rfl|rfl|rfl|rfl|rfl<;>simp[Nh,Mz]
theorem wW {B:Nat}(h:Zz W B Nh)(ho:1<=o/\o<=7):(Instr.lookup 325 (.map (some B)) (.int .i64 o) false).run prog W=.ok (.func (.func (Mz o)) #[] #[]) W:=
 Xq underlying325 sf h (Ru underlying3 jR) (ah3 _ jO) (se ho) (by simp[Nh])
theorem wV(w:World):Calls prog 217 #[] w λe w'=>∃B,e=.returned (.map (some B))/\Zz w' B Nh/\Below w.heap.size w w':=by
 have I:= @aog prog;have C:=aT (Nq.made w);have J:=aT (Yx w (.map #[] 0));go_enter func217,ntmps217
 go_wp2_with (refine YR rfl rfl 325 _ _ _ rfl 3 261 sf underlying325 w w.heap.size _ C rfl _ _ rfl rfl ?hS ?hk ?hn ?_;(case hk=>exact ah3 _ jO);(case hS=>exact Ru underlying3 jR);(case hn=>exact KO jR);clear C;intro T D;have C:=aT D;clear D)
 go_ret;exact⟨w.heap.size,rfl,C.map,(aG w.heap.size w).grown C.grown (aR _) (λk e=>by have:=aq e;omega)⟩
end Go.Proofs.YtclgigmgbebhgaaGreatDoor
namespace Go.Proofs.YtclgigmgbebhgaaGreatDoor
open Tryz
open Go Go.Proofs Go.RowKit
def WI(x y:Int):Int:=if x<y then -1 else if y<x then 1 else 0
def lN:List Int->Int
 |[]=>0
 |x::l=>if x=0 then lN l else x
def wU(x y:Z5):Int:=lN [WI x.a y.a,WI x.o y.o,WI x.m y.m,WI x.v y.v]
theorem r9(x:Int)(w:World):Calls prog 300 #[.int .i64 x] w λe w'=>e=.returned (.bool false)/\w'=w:=by
 go_enter func300,ntmps300;go_wp2_with fail;go_ret;exact⟨jS,rfl⟩
theorem rZ(x:Int)(w:World):Calls prog 301 #[.int .u64 x] w λe w'=>e=.returned (.bool false)/\w'=w:=by
 go_enter func301,ntmps301;go_wp2_with fail;go_ret;exact⟨jS,rfl⟩
theorem rY(x y:Int)(w:World):Calls prog 220 #[.int .i64 x,.int .i64 y] w λe w'=>e=.returned (.int .i64 (WI x y))/\w'=w:=by
 generalize hS:WI x y=S;have C:=aT hS;clear hS;go_enter func220,ntmps220;go_wp2_with fail;refine(r9 _ _).mono ?_;rintro e D ⟨rfl,rfl⟩;go_wp2_with fail;refine(r9 _ _).mono ?_;rintro e D ⟨rfl,rfl⟩;by_cases J:x<y;·go_wp2_with fail;go_ret;exact⟨Oy (by rw[<-C.out];unfold WI;split<;>(try split)<;>omega),rfl⟩
 ·by_cases I:y<x;·go_wp2_with fail;go_ret;exact⟨Oy (by rw[<-C.out];unfold WI;split<;>(try split)<;>omega),rfl⟩
  ·go_wp2_with fail;go_ret;exact⟨Oy (by rw[<-C.out];unfold WI;split<;>(try split)<;>omega),rfl⟩
theorem rX(x y:Int)(w:World):Calls prog 221 #[.int .u64 x,.int .u64 y] w λe w'=>e=.returned (.int .i64 (WI x y))/\w'=w:=by
 generalize hS:WI x y=S;have C:=aT hS;clear hS;go_enter func221,ntmps221;go_wp2_with fail;refine(rZ _ _).mono ?_;rintro e D ⟨rfl,rfl⟩;go_wp2_with fail;refine(rZ _ _).mono ?_;rintro e D ⟨rfl,rfl⟩;by_cases J:x<y;·go_wp2_with fail;go_ret;exact⟨Oy (by rw[<-C.out];unfold WI;split<;>(try split)<;>omega),rfl⟩
 ·by_cases I:y<x;·go_wp2_with fail;go_ret;exact⟨Oy (by rw[<-C.out];unfold WI;split<;>(try split)<;>omega),rfl⟩
  ·go_wp2_with fail;go_ret;exact⟨Oy (by rw[<-C.out];unfold WI;split<;>(try split)<;>omega),rfl⟩
theorem rW{l:List Int}{j:Nat}{x:Int}(h:l[j]? =some x):lN (l.drop j)=if x=0 then lN (l.drop (j+1)) else x:=by
 obtain⟨C,rfl⟩:=ak.1 h;rw[auc C];rfl
theorem lM{B L c:Nat}{l:List Int}(hl:l.length=L)(U:L<=1000)(w:World)(h:∀(j:Nat) (x:Int),l[j]? =some x->w.cell? ⟨B,j,none⟩=some (.int .i64 x)):
 Calls prog 219 #[.slice (some ⟨B,0,none⟩) L c] w λe w'=>e=.returned (.int .i64 (lN l))/\w'=w:=by
 have T:=aT hl;have HC:=aT h;clear hl h;go_enter func219,ntmps219;go_upto_region 3 with fail;go_loopg [8] (L+1) (λgg iv wr=>w=wr/\∃j:Nat,j<=L/\L-j<gg/\iv=.int .i64 (j:Int)/\Hid (lN (l.drop j)=lN l));case atStart=>exact⟨rfl,0,abd _,jO,rfl,(by show _=_;rfl)⟩
 case round=>
  obtain⟨rfl,j,hj,Vs,rfl,Y⟩:=hrel;have i0:=jZ j;by_cases J:j<L
  ·have D:(j:Int)<(L:Int):=by omega
   obtain⟨x,hx⟩:∃x,l[j]? =some x:=⟨_,aL (by rw[T.out];exact J)⟩;have y0:=HC j x hx;have hd:=rW hx;rw[Y.out] at hd;have iw:=jW j;by_cases I:x=0
   ·subst I;rw[aF rfl] at hd;have C:=aT hd.symm;clear hd hx;go_wp2_with fail;go_roundg (L-j);case measure=>omega
    case rel=>exact⟨rfl,j+1,jO,jO,by go_num,C⟩
   ·rw[aN I] at hd;have Z:(x != 0)=true:=by simpa using I
    have C:=aT hd;clear hd hx;go_wp2_with fail;go_ret;exact⟨Oy C.symm,rfl⟩
  ·obtain rfl:L=j:=by omega
   have D:¬(L:Int)<(L:Int):=jO;have hd:=Y.out;rw[amg (by rw[T.out];exact aR _)] at hd;have C:=aT hd;clear hd;go_wp2_with fail;go_ret;exact⟨Oy C,rfl⟩
theorem Oh(x y:Int):WI x y<0↔x<y:=by unfold WI;split<;>(try split)<;>omega
theorem QL(x y:Int):WI x y=0↔x=y:=by unfold WI;split<;>(try split)<;>omega
def ltC(x y:Z5):Prop:=x.a<y.a\/(x.a=y.a/\(x.o<y.o\/(x.o=y.o/\(x.m<y.m\/(x.m=y.m/\x.v<y.v)))))
theorem U8(x y:Z5):wU x y<0↔ltC x y:=by
 have a1:=Oh x.a y.a;have a0:=QL x.a y.a;have I:=Oh x.o y.o;have D:=QL x.o y.o;have m1:=Oh x.m y.m;have m0:=QL x.m y.m;have C:=Oh x.v y.v;have J:=QL x.v y.v;unfold wU ltC;simp only[lN];split
 ·split
  ·split;·split<;>omega
   ·omega
  ·omega
 ·omega
theorem at6:Go.Sort.SWO (λx y:Z5=>decide (wU x y<0)) where
 irrefl x:=by have:=U8 x x;unfold ltC at this;simp only[apd];omega
 trans x y z h1 h2:=by have e1:=U8 x y;have e2:=U8 y z;have e3:=U8 x z;unfold ltC at e1 e2 e3;simp only[adf] at*;omega
 ntrans x y z h1 h2:=by have e1:=U8 x y;have e2:=U8 y z;have e3:=U8 x z;unfold ltC at e1 e2 e3;simp only[apd] at*;omega
theorem D6{P:Program}{o:Oper}{a:Act}(w:World){K:Act->World->Prop}{Q:Exit->Act->World->Prop}(t:TypeId){e:TypeId}{ie:TypeInfo}{sz:Nat}(ho:o.op=.buildSlice t 0 #[])(hu:P.underlying t=some (.slice e))(C:P.info? e=some ie)(hs:ie.size=sz)
 (h:K (a.put o.dst (.slice (some ⟨w.heap.size,0,none⟩) 0 0)) (w.alloc (.cells #[] e))):o.wp P a w K Q:=by
 have hr:(Instr.buildSlice t 0 #[]).run P w=.ok (.slice (some ⟨w.heap.size,0,none⟩) 0 0) (w.alloc (.cells #[] e)):=by
  have hz:Array.range 0=#[]:=by simp[Array.range]
  simp[Instr.buildSlice,ake hu,sizeOf,typeInfo,C,Instr.fill,newRow,hz]
 unfold Oper.wp execOp;simp only[ho,Sem.run_bind,List.map_toArray,aqb,hr,awe];exact h
theorem D5(c:Z5)(hm:c.m<YN)(hv:c.v<YN)(w:World):Calls prog 144 #[.agg (cC c)] w (V2 (Zi c) w):=by
 generalize hS:Zi c=S;have I:=aT hS;clear hS;obtain⟨HP,J,Z⟩:=Xb c w 68;obtain⟨a,o,m,v⟩:=c;unfold cC at*;dsimp only at*;go_enter func144,ntmps144;go_upto_region 1 with fail;generalize (w.alloc (.cells #[.int .i64 a,.int .i64 o,.int .u64 m,.int .u64 v] 68)).alloc (.cells #[.int .i64 0,.int .i64 0,.int .u64 0,.int .u64 0] 68)=w1 at*;obtain⟨⟨p0,p1,p2,p3⟩,_,_,pf2,_⟩:=Z8 HP;obtain⟨R,hR⟩:=jX (w.heap.size+1);rw[hR] at J ⊢;have C:w.heap.size<R:=jO;clear hR;obtain⟨⟨r0,r1,r2,r3⟩,f0,f1,f2,f3⟩:=Z8 J;by_cases hb:UX-1<v
 ·have Y:=aT hb;have hbz:(4294967295:Int)<(v:Int):=by unfold UX at hb;omega
  clear hb;by_cases h2:o=2
  ·have h2z:((o:Int) == 2)=true:=by rw[ahc];omega
   have H2:=aT h2;clear h2;go_wp2_with fail;refine aaf (Zt rfl (ZF J _ _ _ _) rfl) rfl ?_;exact⟨by rw[<-I.out];unfold Zi;rw[aF Y.out,aF (.inl H2.out)];rfl,ZE Z (acf C) _ _ _ _⟩
  ·have h2z:((o:Int) == 2)=false:=by rw[af];omega
   have H2:=aT h2;clear h2;by_cases h3:o=3
   ·have h3z:((o:Int) == 3)=true:=by rw[ahc];omega
    have H3:=aT h3;clear h3;go_wp2_with fail;refine aaf (Zt rfl (ZF J _ _ _ _) rfl) rfl ?_;exact⟨by rw[<-I.out];unfold Zi;rw[aF Y.out,aF (.inr H3.out)];rfl,ZE Z (acf C) _ _ _ _⟩
   ·have h3z:((o:Int) == 3)=false:=by rw[af];omega
    have H3:=aT h3;clear h3;go_wp2_with fail;refine aaf (Zt rfl (ZF J _ _ _ _) rfl) rfl ?_;exact⟨by rw[<-I.out];unfold Zi;rw[aF Y.out,aN (λe=>e.elim H2.out H3.out)];rfl,ZE Z (acf C) _ _ _ _⟩
 ·have Y:=aT hb;have hbz:¬(4294967295:Int)<(v:Int):=by unfold UX at hb;omega
  clear hb;by_cases h7:o=7
  ·have h7z:((o:Int) != 7)=false:=by simp;omega
   have H7:=aT h7;clear h7;have hand:bits .and .u64 (m:Int) 4294967295=((m%UX:Nat):Int):=by rw[and_low32 _ jO (by unfold YN at hm;omega)];unfold UX;omega
   by_cases h0:m%UX=0
   ·have mi:(((m%UX:Nat):Int) == 0)=true:=by rw[h0];rfl
    have HE:Hid (S=.always):=by show S=_;rw[<-I.out];unfold Zi;rw[aN Y.out,aN (λe=>e H7.out),aF h0]
    clear I h0;have T:=aT (HP.set 2 (.int .u64 ((m%UX:Nat):Int)));have D:=aT (J.other (show R≠w.heap.size from jO) 2 (.int .u64 ((m%UX:Nat):Int)));have U:=aT (Z.setCell (p:=⟨w.heap.size,2,none⟩) (aR _) (.int .u64 ((m%UX:Nat):Int)));generalize m%UX=ml at*;go_upto_region 8 with fail;generalize w1.setCell ⟨w.heap.size,2,none⟩ (.int .u64 ml)=w2 at*;obtain⟨⟨p0,p1,p2,p3⟩,_⟩:=Z8 T;obtain⟨⟨r0,r1,r2,r3⟩,f0,f1,f2,f3⟩:=Z8 D;go_wp2_with fail;refine aaf (Zt rfl (ZF D _ _ _ _) rfl) rfl ?_;exact⟨by rw[HE.out];rfl,ZE U (acf C) _ _ _ _⟩
   ·have mi:(((m%UX:Nat):Int) == 0)=false:=by rw[af];omega
    have HE:Hid (S=.asks ⟨a,o,m%UX,v⟩):=by show S=_;rw[<-I.out];unfold Zi;rw[aN Y.out,aN (λe=>e H7.out),aN h0]
    clear I h0;have T:=aT (HP.set 2 (.int .u64 ((m%UX:Nat):Int)));have D:=aT (J.other (show R≠w.heap.size from jO) 2 (.int .u64 ((m%UX:Nat):Int)));have U:=aT (Z.setCell (p:=⟨w.heap.size,2,none⟩) (aR _) (.int .u64 ((m%UX:Nat):Int)));generalize m%UX=ml at*;go_upto_region 8 with fail;generalize w1.setCell ⟨w.heap.size,2,none⟩ (.int .u64 ml)=w2 at*;obtain⟨⟨p0,p1,p2,p3⟩,_⟩:=Z8 T;obtain⟨⟨r0,r1,r2,r3⟩,f0,f1,f2,f3⟩:=Z8 D;go_wp2_with fail;refine aaf (Zt rfl (ZF D _ _ _ _) rfl) rfl ?_;exact⟨by rw[HE.out];rfl,ZE U (acf C) _ _ _ _⟩
  ·have h7z:((o:Int) != 7)=true:=by simp;omega
   have H7:=aT h7;clear h7;go_wp2_with fail;refine aaf (Zt rfl (ZF J _ _ _ _) rfl) rfl ?_;exact⟨by rw[<-I.out];unfold Zi;rw[aN Y.out,aF H7.out];rfl,ZE Z (acf C) _ _ _ _⟩
end Go.Proofs.YtclgigmgbebhgaaGreatDoor
namespace Go.Proofs.YtclgigmgbebhgaaGreatDoor.ZJ
open Tryz
open Go Go.Proofs Go.RowKit
def X2(k:Int):ByteArray:=if k=1 then⟨#[61,61]⟩ else if k=2 then⟨#[33,61]⟩ else if k=3 then⟨#[60]⟩ else if k=4 then⟨#[60,61]⟩ else if k=5 then⟨#[62]⟩ else if k=6 then⟨#[62,61]⟩ else if k=7 then⟨#[38]⟩ else⟨#[]⟩
def Og:Array Value:=#[.string ⟨#[61,61]⟩,.func (.func 68) #[] #[],.string ⟨#[33,61]⟩,.func (.func 69) #[] #[],.string ⟨#[60]⟩,.func (.func 70) #[] #[],.string ⟨#[60,61]⟩,.func (.func 71) #[] #[],.string ⟨#[62]⟩,.func (.func 72) #[] #[],.string ⟨#[62,61]⟩,.func (.func 73) #[] #[],.string ⟨#[38]⟩,.func (.func 74) #[] #[]]
def Yf(a o m:Int):Bool:=decide (0<=a/\a<=5/\1<=o/\o<=7/\(o=7\/m=0))
def Ww(o m v x:Int):Bool:=if o=1 then x == v else if o=2 then x != v else if o=3 then decide (x<v) else if o=4 then decide (x<=v) else if o=5 then decide (v<x) else if o=6 then decide (v<=x) else bits BinOp.and IntKind.u64 x m == v
theorem yX(w:World):Calls prog 33 #[] w λe w'=>e=.returned (.slice (some ⟨w.heap.size,0,none⟩) 7 7)/\w.alloc (.cells Og 104)=w':=by
 go_enter func33,ntmps33;go_wp2;go_ret;exact⟨rfl,rfl⟩
theorem lL(a o m v x:Int)(w:World):Calls prog 68 #[.int .u64 x,.agg #[.int .i64 a,.int .i64 o,.int .u64 m,.int .u64 v]] w λe w'=>e=.returned (.bool (Ww 1 m v x))/\Below w.heap.size w w':=by
 have C:=Z7.new w 68 #[.int .i64 a,.int .i64 o,.int .u64 m,.int .u64 v];have D:=C.cell 2;have I:=C.cell 3;simp only[au,aM,aH] at D I;clear C;go_enter func68,ntmps68;go_wp2;go_ret;exact⟨rfl,(aG _ w).alloc (aR _) _⟩
theorem lK(a o m v x:Int)(w:World):Calls prog 69 #[.int .u64 x,.agg #[.int .i64 a,.int .i64 o,.int .u64 m,.int .u64 v]] w λe w'=>e=.returned (.bool (Ww 2 m v x))/\Below w.heap.size w w':=by
 have C:=Z7.new w 68 #[.int .i64 a,.int .i64 o,.int .u64 m,.int .u64 v];have D:=C.cell 2;have I:=C.cell 3;simp only[au,aM,aH] at D I;clear C;go_enter func69,ntmps69;go_wp2;go_ret;exact⟨rfl,(aG _ w).alloc (aR _) _⟩
theorem lJ(a o m v x:Int)(w:World):Calls prog 70 #[.int .u64 x,.agg #[.int .i64 a,.int .i64 o,.int .u64 m,.int .u64 v]] w λe w'=>e=.returned (.bool (Ww 3 m v x))/\Below w.heap.size w w':=by
 have C:=Z7.new w 68 #[.int .i64 a,.int .i64 o,.int .u64 m,.int .u64 v];have D:=C.cell 2;have I:=C.cell 3;simp only[au,aM,aH] at D I;clear C;go_enter func70,ntmps70;go_wp2;go_ret;exact⟨rfl,(aG _ w).alloc (aR _) _⟩
theorem lI(a o m v x:Int)(w:World):Calls prog 71 #[.int .u64 x,.agg #[.int .i64 a,.int .i64 o,.int .u64 m,.int .u64 v]] w λe w'=>e=.returned (.bool (Ww 4 m v x))/\Below w.heap.size w w':=by
 have C:=Z7.new w 68 #[.int .i64 a,.int .i64 o,.int .u64 m,.int .u64 v];have D:=C.cell 2;have I:=C.cell 3;simp only[au,aM,aH] at D I;clear C;go_enter func71,ntmps71;go_wp2;go_ret;exact⟨rfl,(aG _ w).alloc (aR _) _⟩
theorem lH(a o m v x:Int)(w:World):Calls prog 72 #[.int .u64 x,.agg #[.int .i64 a,.int .i64 o,.int .u64 m,.int .u64 v]] w λe w'=>e=.returned (.bool (Ww 5 m v x))/\Below w.heap.size w w':=by
 have C:=Z7.new w 68 #[.int .i64 a,.int .i64 o,.int .u64 m,.int .u64 v];have D:=C.cell 2;have I:=C.cell 3;simp only[au,aM,aH] at D I;clear C;go_enter func72,ntmps72;go_wp2;go_ret;exact⟨rfl,(aG _ w).alloc (aR _) _⟩
theorem lG(a o m v x:Int)(w:World):Calls prog 73 #[.int .u64 x,.agg #[.int .i64 a,.int .i64 o,.int .u64 m,.int .u64 v]] w λe w'=>e=.returned (.bool (Ww 6 m v x))/\Below w.heap.size w w':=by
 have C:=Z7.new w 68 #[.int .i64 a,.int .i64 o,.int .u64 m,.int .u64 v];have D:=C.cell 2;have I:=C.cell 3;simp only[au,aM,aH] at D I;clear C;go_enter func73,ntmps73;go_wp2;go_ret;exact⟨rfl,(aG _ w).alloc (aR _) _⟩
theorem lF(a o m v x:Int)(w:World):Calls prog 74 #[.int .u64 x,.agg #[.int .i64 a,.int .i64 o,.int .u64 m,.int .u64 v]] w λe w'=>e=.returned (.bool (Ww 7 m v x))/\Below w.heap.size w w':=by
 have C:=Z7.new w 68 #[.int .i64 a,.int .i64 o,.int .u64 m,.int .u64 v];have D:=C.cell 2;have I:=C.cell 3;simp only[au,aM,aH] at D I;clear C;go_enter func74,ntmps74;go_wp2;go_ret;exact⟨rfl,(aG _ w).alloc (aR _) _⟩
theorem VK{a o m:Int}(h:¬(0<=a/\a<=5/\1<=o/\o<=7/\(o=7\/m=0))):Yf a o m=false:=aeg h
theorem X0(a o m v:Int)(w:World):Calls prog 32 #[.agg #[.int .i64 a,.int .i64 o,.int .u64 m,.int .u64 v]] w λe w'=>e=.returned (.bool (Yf a o m))/\Below w.heap.size w w':=by
 have D:=Z7.new w 68 #[.int .i64 a,.int .i64 o,.int .u64 m,.int .u64 v];have c0:=D.cell 0;have c1:=D.cell 1;have Y:=D.cell 2;simp only[au,aM,aH] at c0 c1 Y;have C:=aT ((aG _ w).alloc (aR _) (.cells #[.int .i64 a,.int .i64 o,.int .u64 m,.int .u64 v] 68));clear D;by_cases a0:0<=a
 case neg=>
  have hr:=VK (a:=a) (o:=o) (m:=m) (λh=>jO);rw[hr];clear hr;go_enter func32,ntmps32;go_wp2;go_ret;exact⟨rfl,C⟩
 by_cases J:a<=5
 case neg=>
  have hr:=VK (a:=a) (o:=o) (m:=m) (λh=>jO);rw[hr];clear hr;go_enter func32,ntmps32;go_wp2;go_ret;exact⟨rfl,C⟩
 by_cases T:1<=o
 case neg=>
  have hr:=VK (a:=a) (o:=o) (m:=m) (λh=>jO);rw[hr];clear hr;go_enter func32,ntmps32;go_wp2;go_ret;exact⟨rfl,C⟩
 by_cases U:o<=7
 case neg=>
  have hr:=VK (a:=a) (o:=o) (m:=m) (λh=>jO);rw[hr];clear hr;go_enter func32,ntmps32;go_wp2;go_ret;exact⟨rfl,C⟩
 by_cases I:o=7;·subst I;have hr:Yf a 7 m=true:=acb ⟨a0,J,jD,jD,.inl rfl⟩;rw[hr];clear hr;go_enter func32,ntmps32;go_wp2;go_ret;exact⟨rfl,C⟩
 ·have q7:(o == 7)=false:=by simpa using I
  by_cases m0:m=0;·subst m0;have hr:Yf a o 0=true:=acb ⟨a0,J,T,U,.inr rfl⟩;rw[hr];clear hr I;go_enter func32,ntmps32;go_wp2;go_ret;exact⟨rfl,C⟩
  ·have Z:(m == 0)=false:=by simpa using m0
   have hr:=VK (a:=a) (o:=o) (m:=m) (λh=>jO);rw[hr];clear hr I m0;go_enter func32,ntmps32;go_wp2;go_ret;exact⟨rfl,C⟩
end Go.Proofs.YtclgigmgbebhgaaGreatDoor.ZJ
