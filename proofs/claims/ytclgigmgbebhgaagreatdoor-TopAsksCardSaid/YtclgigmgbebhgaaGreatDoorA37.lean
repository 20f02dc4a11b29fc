/- TopAsks: part 37: PolIn PolOf PolRight TopLw2 TopLw3 TopLw5. -/
import Derived.Test.YtclgigmgbebhgaaGreatDoorA36
set_option linter.unusedVariables false
set_option linter.unusedSimpArgs false
set_option maxRecDepth 100000
set_option maxHeartbeats 16000000
namespace Go.Proofs.YtclgigmgbebhgaaGreatDoor.ZJ
open Tryz
open Go Go.Proofs Go.RowKit
variable {N M q:Nat} {W W':World}
def Up(N:Nat)(W:World)(ua:Option Addr)(cs:List Y4):Prop:=
 ∀(k:Nat) (c:Y4),cs[k]? =some c->∃gu off,ua=some ⟨gu,off,none⟩/\gu<N/\W.cell? ⟨gu,off+k*4,none⟩=some (.int .i64 c.a)/\W.cell? ⟨gu,off+k*4+1,none⟩=some (.int .i64 c.o)/\W.cell? ⟨gu,off+k*4+2,none⟩=some (.int .u64 c.m)/\W.cell? ⟨gu,off+k*4+3,none⟩=some (.int .u64 c.v)
def O0(N:Nat)(W:World)(v:Value)(rs:List YR):Prop:=
 ∃a c,v=.slice a rs.length c/\∀(i:Nat) (r:YR),rs[i]? =some r->∃g off ua uc,a=some ⟨g,off,none⟩/\g<N/\W.cell? ⟨g,off+i*4,none⟩=some (.string r.name)/\W.cell? ⟨g,off+i*4+1,none⟩=some (.int .i64 r.k)/\W.cell? ⟨g,off+i*4+2,none⟩=some (.int .i64 r.n)/\W.cell? ⟨g,off+i*4+3,none⟩=some (.slice ua r.conds.length uc)/\Up N W ua r.conds
theorem Up.below{ua:Option Addr}{cs:List Y4}(h:Up N W ua cs)(hb:Below M W W')(hN:N<=M):Up N W' ua cs:=by
 intro k c hk;obtain⟨A,off,e,hl,I,J,D,T⟩:=h k c hk;have C:∀j v,W.cell? ⟨A,j,none⟩=some v->W'.cell? ⟨A,j,none⟩=some v:=λj v hv=>(hb.cell (p:=⟨A,j,none⟩) (acf hl hN)).trans hv
 exact⟨A,off,e,hl,C _ _ I,C _ _ J,C _ _ D,C _ _ T⟩
theorem O0.below{v:Value}{rs:List YR}(h:O0 N W v rs)(hb:Below M W W')(hN:N<=M):O0 N W' v rs:=by
 obtain⟨a,c,J,I⟩:=h;refine⟨a,c,J,λi r hr=> ?_⟩;obtain⟨g,off,ua,uc,e,C,Y,Z,T,U,D⟩:=I i r hr;have A:∀j v,W.cell? ⟨g,j,none⟩=some v->W'.cell? ⟨g,j,none⟩=some v:=λj v hv=>(hb.cell (p:=⟨g,j,none⟩) (acf C hN)).trans hv
 exact⟨g,off,ua,uc,e,C,A _ _ Y,A _ _ Z,A _ _ T,A _ _ U,D.below hb hN⟩
theorem VY.toI{ua:Option Addr}{cs:List Y4}(h:VY N W ua cs):Up N W ua cs:=by
 intro k c hk;obtain⟨A,e,hl,D,I,C,J⟩:=h k c hk;refine⟨A,0,e,hl,?_,?_,?_,?_⟩<;>rw[adf]<;>assumption
theorem YL.toI{tr tc lo:Nat} {v:Value}{rs:List YR}(h:YL tr tc lo W v rs):O0 W.heap.size W v rs:=by
 obtain⟨a,c,rfl⟩:=h.slice;refine⟨a,c,rfl,λi r hr=> ?_⟩;obtain⟨g,ua,uc,e,C,J,T,I,D,A⟩:=Dh h hr;refine⟨g,0,ua,uc,e,C,?_,?_,?_,?_,A.toI⟩<;>rw[adf]<;>assumption
abbrev Xy:Nat:=51
def yq(b:Bool)(w:World)(e:Ending)(w':World):Prop:=∃z:Int,e=.returned (.int .i64 z)/\(decide (0<=z)= !b)/\Below w.heap.size w w'
theorem Dg{α:Type}{p:α->Bool}{l:List α} {x:α}(h:(l.take q).all p=true)(hx:l[q]? =some x)(hp:p x=true):(l.take (q+1)).all p=true:=by
 rw[afb,hx,List.all_append,h];simp[hp]
theorem yo{α:Type}{p:α->Bool}{l:List α} {x:α}(hx:l[q]? =some x)(hp:p x=false):l.all p=false:=by
 rw[List.all_eq_false];exact⟨x,ag hx,by rw[hp];decide⟩
theorem Js(c:Y4)(w:World):
 Calls prog 205 #[.agg #[.int .i64 c.a,.int .i64 c.o,.int .u64 c.m,.int .u64 c.v]] w λe w'=>e=.returned (.bool (!XM c))/\Below w.heap.size w w':=by
 have C:=aT (λW=>Zj.XQ c.a c.o c.m c.v W);unfold XM;go_enter func205,ntmps205
 go_wp2_with (go_at_call 32;refine(C _).mono ?_;rintro e D ⟨rfl,A⟩)
 go_ret;exact⟨rfl,((aG _ w).alloc (aP _) _).trans (A.mono jS)⟩
theorem Gd {ua:Option Addr}{uc:Nat}{cs:List Y4}(hl:cs.length<=1000000)(w:World)(hN:N<=w.heap.size)(h:VY N w ua cs):
 Calls prog 130 #[.slice ua cs.length uc,.func (.func 205) #[] #[]] w (yq (cs.all XM) w):=by
 obtain⟨L,hL⟩:=jX cs.length;rw[hL] at hl ⊢;have HL:=aT hL;have HC:=aT h;have HN:=aT hN;clear h hL hN;go_enter func130,ntmps130;go_upto_region 2 with fail;go_loopg [5,8] (L+1) (λgg _ iv wr=>∃q:Nat,q<=L/\L-q<gg/\iv=.int .i64 (q:Int)/\Hid ((cs.take q).all XM=true)/\Hid (Below w.heap.size w wr));case atStart=>exact⟨0,abb _,jO,rfl,(by show _=_;rfl),aG _ _⟩
 case round=>
  obtain⟨q,hqL,VM,rfl,HT,HB⟩:=hrel;have q0:=jZ q;by_cases hq:q<L
  ·have lH:(q:Int)<(L:Int):=by omega
   obtain⟨c,hc⟩:∃c,cs[q]? =some c:=⟨_,aM (by rw[HL.out];exact hq)⟩;obtain⟨gu,rfl,I7,Z,y1,y2,Y⟩:=HC q c hc;have U:gu<w.heap.size:=acf I7 HN;have J:∀j v,w.cell? ⟨gu,j,none⟩=some v->wr.cell? ⟨gu,j,none⟩=some v:=λj v hv=>(HB.cell (p:=⟨gu,j,none⟩) U).trans hv
   have Z:=J _ _ Z;have y1:=J _ _ y1;have y2:=J _ _ y2;have Y:=J _ _ Y;have D:=aT (Js c wr);cases A:XM c with
   |true=>
    have Un:=aT (Dg HT hc A);rw[A] at D;clear J hc A;go_wp2_with fail;refine D.mono ?_;rintro e w1 ⟨rfl,C⟩;have I:=NX HB C;clear C Z y1 y2 Y;go_wp2;go_roundg (L-q);case measure=>omega
    case rel=>exact⟨q+1,jO,jO,by go_num,Un,I⟩
   |false=>
    have HF:=aT (yo hc A);rw[A] at D;clear J hc A;go_wp2_with fail;refine D.mono ?_;rintro e w1 ⟨rfl,C⟩;have I:=NX HB C;clear C Z y1 y2 Y;go_wp2;go_ret;exact⟨_,rfl,by rw[HF.out];exact ace q0,I⟩
  ·obtain rfl:L=q:=by omega
   have lH:¬(L:Int)<(L:Int):=jO;have T:Hid (cs.all XM=true):=by have h:=HT.out;rwa [abd (by rw[HL.out];exact aP _)] at h
   go_wp2;go_ret;exact⟨_,rfl,by rw[T.out];decide,HB⟩
theorem Gc {ua:Option Addr}{uc:Nat}{cs:List Y4}(hl:cs.length<=1000000)(w:World)(hN:N<=w.heap.size)(h:VY N w ua cs):
 Calls prog 79 #[.slice ua cs.length uc,.func (.func 205) #[] #[]] w λe w'=>e=.returned (.bool (!cs.all XM))/\Below w.heap.size w w':=by
 have I:=aT (Gd (uc:=uc) hl w hN h);generalize cs.all XM=b at*;generalize cs.length=L at*;clear h hN;go_enter func79,ntmps79;go_wp2_with fail;refine I.mono ?_;rintro e J ⟨z,rfl,hz,A⟩;have C:=aT A;have hz:decide ((0:Int)<=z)= !b:=hz;have D:=aT hz;clear A I;go_wp2;go_ret;exact⟨by first|rw[D.out]|rw[<-D.out];simp,C⟩
theorem and_true(b:Bool):(b&&true)=b:=by cases b<;>rfl
theorem Jr{N:Nat}{r:YR}{ua:Option Addr}{uc:Nat}(hs:r.name.size<=1000000)(hl:r.conds.length<=1000000)(w:World)(hN:N<=w.heap.size)(h:VY N w ua r.conds):
 Calls prog 126 #[.agg #[.string r.name,.int .i64 r.k,.int .i64 r.n,.slice ua r.conds.length uc]] w λe w'=>e=.returned (.bool (Wp r))/\Below w.heap.size w w':=by
 obtain⟨nm,k,n,cs⟩:=r;dsimp only at hs hl h ⊢;unfold Wp;dsimp only;have D:=aT (λW=>AE nm hs W);have Y:=aT (λW=>Yo.XQ k n W);have xS:=aT (λW (hb:Below w.heap.size w W)=>Gc (N:=N) (uc:=uc) hl W (aO hN hb.size) (h.below hb hN));generalize hA:cs.all XM=ba at*;generalize cs.length=L at*;have hX:=Z8.new w jh #[.string nm,.int .i64 k,.int .i64 n,.slice ua L uc];have HX:=aT hX;have HB:=aT ((aG w.heap.size w).alloc (aP _) (.cells #[.string nm,.int .i64 k,.int .i64 n,.slice ua L uc] jh));clear h hN hX hA hs;cases Z:Sq nm with
 |false=>
  rw[Z] at D;clear Z;go_enter func126,ntmps126
  go_wp2_with (go_at_call 204;refine(D _).mono ?_;rintro e w1 ⟨rfl,A⟩)
  go_ret;exact⟨rfl,(NX HB A)⟩
 |true=>
  rw[Z] at D;clear Z;cases U:Yo.Zw k n with
  |false=>
   rw[U] at Y;clear U;go_enter func126,ntmps126;go_wp2_with fail;refine(D _).mono ?_;rintro e w1 ⟨rfl,A⟩;have C:=Ie HX A;have T:=NX HB A;have a1:=C.cell 1;have a2:=C.cell 2;simp only[ak,aL,aF] at a1 a2;clear A HX HB
   go_wp2_with (go_at_call 123;refine(Y _).mono ?_;rintro e w2 ⟨rfl,I⟩)
   go_ret;exact⟨rfl,(NX T I)⟩
  |true=>
   rw[U] at Y;clear U;go_enter func126,ntmps126;go_wp2_with fail;refine(D _).mono ?_;rintro e w1 ⟨rfl,A⟩;have C:=Ie HX A;have T:=NX HB A;have a1:=C.cell 1;have a2:=C.cell 2;simp only[ak,aL,aF] at a1 a2;clear A HX HB;go_wp2_with fail;refine(Y _).mono ?_;rintro e w2 ⟨rfl,I⟩;have xG:=Ie C I;have J:=NX T I;have a3:=xG.cell 3;simp only[ak,aL,aF] at a3;clear I C T a1 a2;by_cases h6:L<=6
   ·have h6z:(L:Int)<=6:=by omega
    have e6:decide (L<=6)=true:=ace h6;have e6z:decide ((L:Int)<=6)=true:=ace h6z;go_wp2_with fail;refine(xS _ J).mono ?_;rintro e w3 ⟨rfl,hb3⟩;have Ul:=NX J hb3;clear hb3 xG J a3;go_wp2;go_ret;exact⟨by rw[e6];cases ba<;>rfl,Ul⟩
   ·have h6z:¬(L:Int)<=6:=by omega
    have e6:decide (L<=6)=false:=aee h6;have e6z:decide ((L:Int)<=6)=false:=aee h6z;go_wp2;go_ret;exact⟨by rw[e6];rfl,J⟩
theorem Jq {r:YR}{ua:Option Addr}{uc:Nat}(hs:r.name.size<=1000000)(hl:r.conds.length<=1000000)(w:World)(hN:N<=w.heap.size)(h:VY N w ua r.conds):
 Calls prog 125 #[.agg #[.string r.name,.int .i64 r.k,.int .i64 r.n,.slice ua r.conds.length uc]] w λe w'=>e=.returned (.bool (!Wp r))/\Below w.heap.size w w':=by
 have C:=aT ((aG w.heap.size w).alloc (aP _) (.cells #[.string r.name,.int .i64 r.k,.int .i64 r.n,.slice ua r.conds.length uc] jh));have I:=aT (Jr (uc:=uc) hs hl _ (aO hN C.size) (h.below C hN));clear h hN;generalize Wp r=b at*;go_enter func125,ntmps125;go_wp2_with fail;refine I.mono ?_;rintro e J ⟨rfl,A⟩;have D:=NX C A;clear A C I;go_wp2;go_ret;exact⟨rfl,D⟩
theorem Gb{lo:Nat}{v:Value}{rs:List YR}(hl:rs.length<=1000000)(hc:∀r∈rs,r.name.size<=1000000/\r.conds.length<=1000000)(w:World)(h:YL jh TCd lo w v rs):
 Calls prog 83 #[v,.func (.func 125) #[] #[]] w (yq (rs.all Wp) w):=by
 obtain⟨a,c,rfl⟩:=h.slice;obtain⟨L,hL⟩:=jX rs.length;rw[hL] at hl h ⊢;have HL:=aT hL;have HR:=aT h;have HCD:=aT hc;clear h hL hc;go_enter func83,ntmps83;go_upto_region 2 with fail;go_loopg [5,8] (L+1) (λgg _ iv wr=>∃q:Nat,q<=L/\L-q<gg/\iv=.int .i64 (q:Int)/\Hid ((rs.take q).all Wp=true)/\Hid (Below w.heap.size w wr));case atStart=>exact⟨0,abb _,jO,rfl,(by show _=_;rfl),aG _ _⟩
 case round=>
  obtain⟨q,hqL,VM,rfl,HT,Y⟩:=hrel;have q0:=jZ q;by_cases hq:q<L
  ·have lH:(q:Int)<(L:Int):=by omega
   obtain⟨r,hr⟩:∃r,rs[q]? =some r:=⟨_,aM (by rw[HL.out];exact hq)⟩;obtain⟨g1,ua1,uc1,rfl,hg1,y0,y1,y2,y3,U⟩:=Dh HR hr;have Z:∀j v,w.cell? ⟨g1,j,none⟩=some v->wr.cell? ⟨g1,j,none⟩=some v:=λj v hv=>(Y.cell (p:=⟨g1,j,none⟩) hg1).trans hv
   have y0:=Z _ _ y0;have y1:=Z _ _ y1;have y2:=Z _ _ y2;have y3:=Z _ _ y3;obtain⟨I,T⟩:=HCD r (ag hr);have D:=aT (Jq (N:=w.heap.size) (r:=r) (ua:=ua1) (uc:=uc1) I T wr Y.size (U.below Y (aP _)));cases A:Wp r with
   |true=>
    have Un:=aT (Dg HT hr A);rw[A] at D;clear Z hr A U I T;go_wp2_with fail;refine D.mono ?_;rintro e w1 ⟨rfl,C⟩;have J:=NX Y C;clear C y0 y1 y2 y3;go_wp2;go_roundg (L-q);case measure=>omega
    case rel=>exact⟨q+1,jO,jO,by go_num,Un,J⟩
   |false=>
    have HF:=aT (yo hr A);rw[A] at D;clear Z hr A U I T;go_wp2_with fail;refine D.mono ?_;rintro e w1 ⟨rfl,C⟩;have J:=NX Y C;clear C y0 y1 y2 y3;go_wp2;go_ret;exact⟨_,rfl,by rw[HF.out];exact ace q0,J⟩
  ·obtain rfl:L=q:=by omega
   have lH:¬(L:Int)<(L:Int):=jO;have ay4:Hid (rs.all Wp=true):=by have h:=HT.out;rwa [abd (by rw[HL.out];exact aP _)] at h
   go_wp2;go_ret;exact⟨_,rfl,by rw[ay4.out];decide,Y⟩
theorem Ga{lo:Nat}{v:Value}{rs:List YR}(hl:rs.length<=1000000)(hc:∀r∈rs,r.name.size<=1000000/\r.conds.length<=1000000)(w:World)(h:YL jh TCd lo w v rs):
 Calls prog 124 #[v,.func (.func 125) #[] #[]] w λe w'=>e=.returned (.bool (!rs.all Wp))/\Below w.heap.size w w':=by
 have I:=aT (Gb hl hc w h);obtain⟨a,c,rfl⟩:=h.slice;generalize rs.all Wp=b at*;generalize rs.length=L at*;clear h hc;go_enter func124,ntmps124;go_wp2_with fail;refine I.mono ?_;rintro e J ⟨z,rfl,hz,A⟩;have C:=aT A;have hz:decide ((0:Int)<=z)= !b:=hz;have D:=aT hz;clear A I;go_wp2;go_ret;exact⟨by first|rw[D.out]|rw[<-D.out];simp,C⟩
def Small(p:PSt):Prop:=p.rules.length<=1000000/\∀r∈p.rules,r.name.size<=1000000/\r.conds.length<=1000000
theorem Ay{p:PSt}{v:Value}{lo:Nat}(hs:Small p)(w:World)(h:YL jh TCd lo w v p.rules):
 Calls prog 75 #[am2 p.k p.n p.x v] w λe w'=>e=.returned (.bool (Dm p))/\Below w.heap.size w w':=by
 obtain⟨k,n,x,rs⟩:=p;obtain⟨a,c,rfl⟩:=h.slice;obtain⟨U,J⟩:=hs;dsimp only at U J h ⊢;unfold Dm am2;dsimp only;have I:=aT (λW=>Yo.XQ k n W);have xS:=aT (λW (hb:Below w.heap.size w W)=>Ga U J W (h.below hb));generalize hA:rs.all Wp=ba at*;generalize rs.length=L at*;have HX:=aT (Z8.new w Xy #[.int .i64 k,.int .i64 n,.bool x,.slice a L c]);have HB:=aT ((aG w.heap.size w).alloc (aP _) (.cells #[.int .i64 k,.int .i64 n,.bool x,.slice a L c] Xy));clear h hA J;cases D:Yo.Zw k n with
 |false=>
  rw[D] at I;clear D;go_enter func75,ntmps75
  go_wp2_with (go_at_call 123;refine(I _).mono ?_;rintro e w2 ⟨rfl,A⟩)
  go_ret;exact⟨rfl,(NX HB A)⟩
 |true=>
  rw[D] at I;clear D;go_enter func75,ntmps75;go_wp2_with fail;refine(I _).mono ?_;rintro e w2 ⟨rfl,A⟩;have Z:=Ie HX A;have C:=NX HB A;have a3:=Z.cell 3;simp only[ak,aL,aF] at a3;clear A HX HB;by_cases h6:L<=500
  ·have T:(L:Int)<=500:=by omega
   have e6:decide (L<=500)=true:=ace h6;have e6z:decide ((L:Int)<=500)=true:=ace T;go_wp2_with fail;refine(xS _ C).mono ?_;rintro e w3 ⟨rfl,Y⟩;have Ul:=NX C Y;clear Y Z C a3;go_wp2;go_ret;exact⟨by rw[e6];cases ba<;>rfl,Ul⟩
  ·have T:¬(L:Int)<=500:=by omega
   have e6:decide (L<=500)=false:=aee h6;have e6z:decide ((L:Int)<=500)=false:=aee T;go_wp2;go_ret;exact⟨by rw[e6];rfl,C⟩
end Go.Proofs.YtclgigmgbebhgaaGreatDoor.ZJ
namespace Go.Proofs.YtclgigmgbebhgaaGreatDoor
open Tryz
open Go Go.Proofs Go.RowKit
variable {N K:Nat} {W:World}
@[go_sem] abbrev pq:Oper:=⟨some 23,.load 89 (.tmp 22),89,"top.go:29",#[⟨0,.data⟩],none⟩
@[go_sem] abbrev eP:Oper:=⟨some 29,.call {callee:=.value (.func 19),args:=#[.tmp 28],argTypes:=#[27]},68,"top.go:29",#[⟨6,.data⟩],none⟩
@[go_sem] abbrev po:Oper:=⟨some 30,.buildSlice 89 1 #[(0,.tmp 29)],89,"top.go:29",#[⟨7,.data⟩],none⟩
abbrev TDr:Nat:=34
structure RuL(s X:Nat)(w:World)(rc xc:Array Value)(cs:List ZJ.Y4)(u:Value)(q:Nat)(W:World):Prop where
 rb:Z8 W s TDr rc
 zb:Z8 W (s+1) TR #[.string ⟨#[]⟩,.int .i64 0,.int .i64 0,.slice none 0 0]
 xb:Z8 W X TR xc
 row:W.ownsRow (X+1) TC 4 u q (ZJ.Wo (cs.take q))
 Zs:Below s w W
 hX:X=s+1+1
section
variable {s X q:Nat} {w W W':World} {rc xc:Array Value} {cs:List ZJ.Y4} {u:Value}
theorem RuL.to(h:RuL s X w rc xc cs u q W)(hb:Below W.heap.size W W'):RuL s X w rc xc cs u q W':=
 ⟨h.rb.below hb h.rb.lt,h.zb.below hb h.zb.lt,h.xb.below hb h.xb.lt,ZF h.row hb,h.Zs.trans (hb.mono (acd h.rb.lt)),h.hX⟩
end
theorem uQ {nm:ByteArray}{k n:Int}{ua:Option Addr}{uc:Nat}{cs:List ZJ.Y4}(D:cs.length=K)(hl:K<=1000000)(w:World)(hN:N<=w.heap.size)(h:ZJ.Up N w ua cs):
 Calls prog 28 #[.agg #[.string nm,.int .i64 k,.int .i64 n,.slice ua K uc]] w λe w'=>∃u,e=.returned (.agg #[.string nm,.int .i64 k,.int .i64 n,u])/\w'.ownsRow w.heap.size TC 4 u K (ZJ.Wo cs)/\Below w.heap.size w w':=by
 have HK:=aT D;have HC:=aT h;obtain⟨i0,XW,SC,Vo,TF⟩:=PH GM;obtain⟨w1,Jy⟩:∃z,w.alloc (.cells #[.string nm,.int .i64 k,.int .i64 n,.slice ua K uc] TDr)=z:=⟨_,rfl⟩;obtain⟨w2,hw2⟩:∃z,w1.alloc (.cells #[.string ⟨#[]⟩,.int .i64 0,.int .i64 0,.slice none 0 0] TR)=z:=⟨_,rfl⟩;obtain⟨w3,hw3⟩:∃z,w2.alloc (.cells #[.string nm,.int .i64 k,.int .i64 n,.slice none 0 0] TR)=z:=⟨_,rfl⟩;have s1:w1.heap.size=w.heap.size+1:=by rw[<-Jy,ai]
 have s2:w2.heap.size=w.heap.size+1+1:=by rw[<-hw2,ai,s1]
 have FW:Hid (RuL w.heap.size (w.heap.size+1+1) w #[.string nm,.int .i64 k,.int .i64 n,.slice ua K uc] #[.string nm,.int .i64 k,.int .i64 n,.slice none 0 0] cs (.slice none 0 0) 0 w3):=by
  have b3:Below w2.heap.size w2 w3:=by rw[<-hw3];exact Yk w2 _
  have b2:Below w1.heap.size w1 w3:=by
   have:Below w1.heap.size w1 w2:=by rw[<-hw2];exact Yk w1 _
   exact this.trans (b3.mono this.size)
  have b1:Below w.heap.size w w3:=by
   have:Below w.heap.size w w1:=by rw[<-Jy];exact Yk w _
   exact this.trans (b2.mono this.size)
  have B0:Z8 w3 w.heap.size TDr #[.string nm,.int .i64 k,.int .i64 n,.slice ua K uc]:=(by rw[<-Jy];exact Z8.new w _ _:Z8 w1 w.heap.size TDr #[.string nm,.int .i64 k,.int .i64 n,.slice ua K uc]).below b2 jO;have B1:Z8 w3 w1.heap.size TR #[.string ⟨#[]⟩,.int .i64 0,.int .i64 0,.slice none 0 0]:=(by rw[<-hw2];exact Z8.new w1 _ _:Z8 w2 w1.heap.size TR #[.string ⟨#[]⟩,.int .i64 0,.int .i64 0,.slice none 0 0]).below b3 jO;have B2:Z8 w3 w2.heap.size TR #[.string nm,.int .i64 k,.int .i64 n,.slice none 0 0]:=by rw[<-hw3];exact Z8.new w2 _ _
  rw[s1] at B1;rw[s2] at B2;exact⟨B0,B1,B2,Yg _ _ _ _,b1,rfl⟩
 have HW:=aT (And.intro Jy (And.intro hw2 hw3));clear D h Jy hw2 hw3 s1 s2;go_enter func28,ntmps28;go_upto_region 3 with fail;rw[HW.out.1,HW.out.2.1,HW.out.2.2];clear HW;obtain⟨X,hX⟩:=jX (w.heap.size+1+1);rw[hX] at FW ⊢;have HXe:=aT hX;have hsX:w.heap.size<X:=jO;clear hX;go_loopg [4] (K+1) (λgg s4 wr=>∃(q:Nat) (u:Value),q<=K/\K-q<gg/\s4=.int .i64 (q:Int)/\Hid (RuL w.heap.size X w #[.string nm,.int .i64 k,.int .i64 n,.slice ua K uc] #[.string nm,.int .i64 k,.int .i64 n,u] cs u q wr));case atStart=>exact⟨0,_,abb _,jO,rfl,FW⟩
 case round=>
  obtain⟨q,u,hqK,VM,rfl,Z⟩:=hrel;clear FW;have q0':=jZ q;obtain⟨⟨b0,b1,b2,b3⟩,_⟩:=Z7 Z.rb;obtain⟨xa,xc,rfl⟩:=ZY Z.row;by_cases hlt:q<K
  ·have Zc:(q:Int)<(K:Int):=by omega
   have kZ:=jW q;obtain⟨⟨A,O,M2,V⟩,hc⟩:∃c,cs[q]? =some c:=⟨_,aM (by rw[HK.out];exact hlt)⟩;obtain⟨U,off,rfl,I7,c0,c1,c2,c3⟩:=HC q _ hc;dsimp only at c0 c1 c2 c3;have gy:U<w.heap.size:=acf I7 hN;have Ek:Hid (ZJ.Wo (cs.take (q+1))=ZJ.Wo (cs.take q)++[.int .i64 A,.int .i64 O,.int .u64 M2,.int .u64 V]):=by show _=_;rw[afb,hc];exact ZJ.AD _ _
   have Y:Hid (∀W:World,Below X wr W->W.cell? ⟨w.heap.size,3,none⟩=some (.slice (some ⟨U,off,none⟩) K uc)/\W.cell? ⟨U,off+q*4,none⟩=some (.int .i64 A)/\W.cell? ⟨U,off+q*4+1,none⟩=some (.int .i64 O)/\W.cell? ⟨U,off+q*4+2,none⟩=some (.int .u64 M2)/\W.cell? ⟨U,off+q*4+3,none⟩=some (.int .u64 V)):=λW hW=>by
    have ce:∀j v,w.cell? ⟨U,j,none⟩=some v->W.cell? ⟨U,j,none⟩=some v:=λj v hv=>(hW.cell (p:=⟨U,j,none⟩) (show U<X from jO)).trans ((Z.Zs.cell (p:=⟨U,j,none⟩) gy).trans hv)
    exact⟨(hW.cell (p:=⟨w.heap.size,3,none⟩) hsX).trans b3,ce _ _ c0,ce _ _ c1,ce _ _ c2,ce _ _ c3⟩
   have mK:=aT (λW=>AO A O M2 V W);have jg:X<wr.heap.size:=Z.xb.lt;have kd:Below X wr wr.drew:=(aG X wr).drew;have x3:wr.cell? ⟨X,3,none⟩=some (.slice xa q xc):=Z.xb.cell 3;clear c0 c1 c2 c3 hc b0 b1 b2;go_upto_region 5 with fail;refine agc (S:=λw'=>w'.cell? ⟨w.heap.size,3,none⟩=some (.slice (some ⟨U,off,none⟩) K uc)/\w'.cell? ⟨U,off+q*4,none⟩=some (.int .i64 A)/\w'.cell? ⟨U,off+q*4+1,none⟩=some (.int .i64 O)/\w'.cell? ⟨U,off+q*4+2,none⟩=some (.int .u64 M2)/\w'.cell? ⟨U,off+q*4+3,none⟩=some (.int .u64 V)) jK (Y _ (by first|(with_reducible assumption)|(with_reducible exact kd))) (λhHeld=> ?_);refine jT 0 ⟨some 22,.fieldAddr 91 (.tmp 3) 2,0,"top.go:29",#[],none⟩ ?_;try simp only[Act.put,aS,aQ,aR]
   refine jT 2 ⟨some 24,.fieldAddr 34 (.tmp 1) 2,0,"top.go:29",#[],none⟩ ?_;try simp only[Act.put,aS,aQ,aR]
   refine jT 3 ⟨some 25,.load 22 (.tmp 24),22,"top.go:29",#[⟨2,.data⟩],none⟩ ?_;try simp only[Act.put,aS,aQ,aR]
   refine jT 4 ⟨some 26,.move (.tmp 4),3,"top.go:29",#[],none⟩ ?_;try simp only[Act.put,aS,aQ,aR]
   refine jT 5 ⟨some 27,.indexAddr 22 (.tmp 25) (.tmp 26),0,"top.go:29",#[⟨3,.data⟩,⟨4,.data⟩],none⟩ ?_;try simp only[Act.put,aS,aQ,aR]
   refine jT 6 ⟨some 28,.load 27 (.tmp 27),27,"top.go:29",#[⟨5,.data⟩],none⟩ ?_;try simp only[Act.put,aS,aQ,aR]
   refine aag (rs:=[1,7]) jK jS ?_;refine ae (o:=pq) rfl (λJ D=> ?ab5) (ae (o:=eP) rfl (λJ D=> ?ab6) aad)
   case' ab5=>
    go_simp;refine D _ _ hHeld (λhHeld=> ?_);clear D J;try simp only[Act.put,aS,aQ,aR]
    refine aag (rs:=[7]) jK jS ?_;refine ae (o:=eP) rfl (λJ D=> ?ay5) aad;go_simp;refine(mK _).mono ?_;rintro e T ⟨rfl,Uw⟩;have I:Below wr.heap.size wr T:=(aG _ wr).drew.trans Uw;have k7:Below X wr T:=I.mono (acd jg);have pj:=I.trans ((Yk T (.cells #[.int .i64 A,.int .i64 O,.int .u64 M2,.int .u64 V] TC)).mono I.size);have k8:Below X wr (T.alloc (.cells #[.int .i64 A,.int .i64 O,.int .u64 M2,.int .u64 V] TC)):=pj.mono (acd jg);have C:=aT (Z.to pj);have x7:T.cell? ⟨X,3,none⟩=some (.slice xa q xc):=(Z.to I).xb.cell 3;have x8:(T.alloc (.cells #[.int .i64 A,.int .i64 O,.int .u64 M2,.int .u64 V] TC)).cell? ⟨X,3,none⟩=some (.slice xa q xc):=C.xb.cell 3;have hs8:X+1<=(T.alloc (.cells #[.int .i64 A,.int .i64 O,.int .u64 M2,.int .u64 V] TC)).heap.size:=C.xb.lt;refine D _ _ (Y _ (by first|(with_reducible assumption)|(with_reducible exact kd))) (λhHeld=> ?_);clear D J;try simp only[Act.put,aS,aQ,aR]
    refine aag (rs:=[8]) jK jS ?_;refine ae (o:=po) rfl (λJ D=> ?ay6) aad;go_simp;refine D _ _ (Y _ (by first|(with_reducible assumption)|(with_reducible exact kd))) (λhHeld=> ?_);clear D J;try simp only[Act.put,aS,aQ,aR]
   case' ab6=>
    go_simp;refine(mK _).mono ?_;rintro e T ⟨rfl,Uw⟩;have I:Below wr.heap.size wr T:=(aG _ wr).drew.trans Uw;have k7:Below X wr T:=I.mono (acd jg);have pj:=I.trans ((Yk T (.cells #[.int .i64 A,.int .i64 O,.int .u64 M2,.int .u64 V] TC)).mono I.size);have k8:Below X wr (T.alloc (.cells #[.int .i64 A,.int .i64 O,.int .u64 M2,.int .u64 V] TC)):=pj.mono (acd jg);have C:=aT (Z.to pj);have x7:T.cell? ⟨X,3,none⟩=some (.slice xa q xc):=(Z.to I).xb.cell 3;have x8:(T.alloc (.cells #[.int .i64 A,.int .i64 O,.int .u64 M2,.int .u64 V] TC)).cell? ⟨X,3,none⟩=some (.slice xa q xc):=C.xb.cell 3;have hs8:X+1<=(T.alloc (.cells #[.int .i64 A,.int .i64 O,.int .u64 M2,.int .u64 V] TC)).heap.size:=C.xb.lt;refine D _ _ (Y _ (by first|(with_reducible assumption)|(with_reducible exact kd))) (λhHeld=> ?_);clear D J;try simp only[Act.put,aS,aQ,aR]
    refine aag (rs:=[1,8]) jK jS ?_;refine ae (o:=pq) rfl (λJ D=> ?ab7) (ae (o:=po) rfl (λJ D=> ?ab8) aad)
   case' ab7=>
    go_simp;refine D _ _ hHeld (λhHeld=> ?_);clear D J;try simp only[Act.put,aS,aQ,aR]
    refine aag (rs:=[8]) jK jS ?_;refine ae (o:=po) rfl (λJ D=> ?ay7) aad;go_simp;refine D _ _ (Y _ (by first|(with_reducible assumption)|(with_reducible exact kd))) (λhHeld=> ?_);clear D J;try simp only[Act.put,aS,aQ,aR]
   case' ab8=>
    go_simp;refine D _ _ (Y _ (by first|(with_reducible assumption)|(with_reducible exact kd))) (λhHeld=> ?_);clear D J;try simp only[Act.put,aS,aQ,aR]
    refine aag (rs:=[1]) jK jS ?_;refine ae (o:=pq) rfl (λJ D=> ?ay8) aad;go_simp;refine D _ _ hHeld (λhHeld=> ?_);clear D J;try simp only[Act.put,aS,aQ,aR]
   all_goals (
    refine aag (rs:=[9]) jK jS ?_;refine ae (o:=⟨some 31,.call {callee:=.builtin .append,args:=#[.tmp 23,.tmp 30],argTypes:=#[89,89]},89,"top.go:29",#[⟨1,.data⟩,⟨8,.data⟩,⟨7,.chain⟩],none⟩) rfl (λJ D=> ?_) aad;refine step_append_lies _ rfl _ _ 89 rfl (X+1) TC i0 (.agg #[.int .i64 0,.int .i64 0,.int .u64 0,.int .u64 0]) 4 32 underlying89 XW SC Vo TF rfl jD (.slice xa q xc) q (ZJ.Wo (cs.take q)) rfl C.row ⟨T.heap.size,0,none⟩ 1 1 [.int .i64 A,.int .i64 O,.int .u64 M2,.int .u64 V] rfl rfl (World.news_of_block (Z8.new T _ _)) (by simp[Value.oneCell']) jD (by unfold maxLen;omega) jO hs8 _ rfl ?_;intro gb cap w8 MG LY KH kO;have uf:=C.xb.kept LY (λe=>YZ C.row C.xb jD e.symm);have c8:w8.cell? ⟨X,3,none⟩=some (.slice xa q xc):=uf.cell 3;have f8:=uf.frozen 3;have k9:Below X wr w8:=k8.grown LY (acd hs8) (λk e=>by have:=(C.row.lt k e).1;omega);have kj:=k9.setCell (p:=⟨X,3,none⟩) (aP X) (.slice (some ⟨gb,0,none⟩) (q+1) cap);have Eb:=aT LY;have IW:=aT MG;clear LY MG KH uf;refine D _ _ (Y _ (by first|(with_reducible assumption)|(with_reducible exact kd))) (λhHeld=> ?_);clear D J;try simp only[Act.put,aS,aQ,aR]
    refine jT 10 ⟨some 32,.fieldAddr 91 (.tmp 3) 2,0,"top.go:29",#[⟨0,.phase⟩,⟨1,.phase⟩,⟨2,.phase⟩,⟨3,.phase⟩,⟨4,.phase⟩,⟨5,.phase⟩,⟨6,.phase⟩,⟨7,.phase⟩,⟨8,.phase⟩,⟨9,.phase⟩],none⟩ ?_;try simp only[Act.put,aS,aQ,aR]
    refine aag (rs:=[11]) jK jS ?_;refine ae (o:=⟨none,.store 89 (.tmp 32) (.tmp 31),0,"top.go:29",#[⟨10,.data⟩,⟨9,.data⟩,⟨9,.chain⟩,⟨0,.phase⟩,⟨1,.phase⟩,⟨2,.phase⟩,⟨3,.phase⟩,⟨4,.phase⟩,⟨5,.phase⟩,⟨6,.phase⟩,⟨7,.phase⟩,⟨8,.phase⟩,⟨9,.phase⟩],none⟩) rfl (λJ D=> ?_) aad;go_simp;refine D _ _ (Y _ (by first|(with_reducible assumption)|(with_reducible exact kd))) (λhHeld=> ?_);clear D J;try simp only[Act.put,aS,aQ,aR]
    refine akc jK ?_ _)
   all_goals (
    have ni:Hid (RuL w.heap.size X w #[.string nm,.int .i64 k,.int .i64 n,.slice (some ⟨U,off,none⟩) K uc] #[.string nm,.int .i64 k,.int .i64 n,.slice (some ⟨gb,0,none⟩) (q+1) cap] cs (.slice (some ⟨gb,0,none⟩) (q+1) cap) (q+1) (w8.setCell ⟨X,3,none⟩ (.slice (some ⟨gb,0,none⟩) (q+1) cap))):=by have hR8:=C.rb.kept Eb (λe=>YZ C.row C.rb jD e.symm);have hZ8:=C.zb.kept Eb (λe=>YZ C.row C.zb jD e.symm);have uf:=C.xb.kept Eb (λe=>YZ C.row C.xb jD e.symm);have he:=HXe.out;refine⟨hR8.other jO 3 _,hZ8.other jO 3 _,uf.set 3 _,?_,(C.Zs.grown Eb (acd C.rb.lt) (λk e=>by have:=(C.row.lt k e).1;omega)).setCell (p:=⟨X,3,none⟩) (acd hsX) _,he.symm⟩;rw[Ek.out];exact ZW IW uf jD 3 _
    clear Z C Eb IW k9 kj k8 k7 c8 f8 x7 x8;go_wp2_with fail;go_roundg (K-q)
    (case measure=>omega)
    (case rel=>exact⟨q+1,_,jO,jO,by go_num,ni⟩))
  ·obtain rfl:q=K:=by omega
   have Zc:¬(q:Int)<(q:Int):=jO;have pg:Hid (cs.take q=cs):=abd (by rw[HK.out];exact aP _);obtain⟨⟨x0,x1,x2,x3⟩,_⟩:=Z7 Z.xb;obtain⟨⟨z0,z1,z2,z3⟩,f0,f1,f2,f3⟩:=Z7 Z.zb;go_wp2_with fail;have hz:=Z.zb;refine aaf (Nf rfl (.inr (.inl rfl)) (ZH hz _ _ _ _) rfl) rfl ?_;refine⟨_,rfl,?_,ZG Z.Zs jO _ _ _ _⟩;have hrow:=Z.row;rw[pg.out] at hrow;exact Ze (ZW (ZW (ZW (ZW hrow hz jD 0 _) (hz.set 0 _) jD 1 _) ((hz.set 0 _).set 1 _) jD 2 _) (((hz.set 0 _).set 1 _).set 2 _) jD 3 _) jO
@[go_sem] abbrev pd:Oper:=⟨some 23,.load 49 (.tmp 22),49,"top.go:20",#[⟨0,.data⟩],none⟩
@[go_sem] abbrev eO:Oper:=⟨some 29,.call {callee:=.value (.func 28),args:=#[.tmp 28],argTypes:=#[34]},91,"top.go:20",#[⟨6,.data⟩],none⟩
@[go_sem] abbrev o9:Oper:=⟨some 30,.buildSlice 49 1 #[(0,.tmp 29)],49,"top.go:20",#[⟨7,.data⟩],none⟩
abbrev TDp:Nat:=37
theorem SI{lo B t:Nat} {v:Value}{rs:List ZJ.YR}{cs:Array Value}(h:ZJ.YL TR TC lo W v rs)(A:Z8 W B t cs)(I:TR≠t)(D:TC≠t)(j:Nat)(u:Value):ZJ.YL TR TC lo (W.setCell ⟨B,j,none⟩ u) v rs:=by
 obtain⟨us,e1,e2,e3⟩:=h;exact⟨us,e1,ZW e2 A I j u,λJ C r hu hr=>ZW (e3 J C r hu hr) A D j u⟩
theorem o5{lo lo':Nat} {v:Value}{rs:List ZJ.YR}(h:ZJ.YL TR TC lo W v rs)(hl:lo'<=lo):ZJ.YL TR TC lo' W v rs:=by
 obtain⟨us,e1,e2,e3⟩:=h;exact⟨us,e1,Ze e2 hl,λC A r hu hr=>Ze (e3 C A r hu hr) hl⟩
structure OfL(s X:Nat)(w:World)(pc xc:Array Value)(rs:List ZJ.YR)(u:Value)(q:Nat)(W:World):Prop where
 pb:Z8 W s TDp pc
 zb:Z8 W (s+1) V1 #[.int .i64 0,.int .i64 0,.bool false,.slice none 0 0]
 xb:Z8 W X V1 xc
 row:ZJ.YL TR TC (X+1) W u (rs.take q)
 Zs:Below s w W
 hX:X=s+1+1
section
variable {s X q:Nat} {w W W':World} {pc xc:Array Value} {rs:List ZJ.YR} {u:Value}
theorem OfL.to(h:OfL s X w pc xc rs u q W)(hb:Below W.heap.size W W'):OfL s X w pc xc rs u q W':=
 ⟨h.pb.below hb h.pb.lt,h.zb.below hb h.zb.lt,h.xb.below hb h.xb.lt,h.row.below hb,h.Zs.trans (hb.mono (acd h.pb.lt)),h.hX⟩
end
theorem take_len{α:Type}{l:List α}{q:Nat}(A:l.length=K)(h:q<=K):(l.take q).length=q:=by rw[abg];omega
theorem je {k n:Int}{x:Bool}{ra:Option Addr}{rc:Nat}{rs:List ZJ.YR}(C:rs.length=K)(hl:K<=1000000)(hcs:∀r∈rs,r.conds.length<=1000000)(w:World)(hN:N<=w.heap.size)(h:ZJ.O0 N w (.slice ra K rc) rs):
 Calls prog 11 #[.agg #[.int .i64 k,.int .i64 n,.bool x,.slice ra K rc]] w λe w'=>∃u,e=.returned (.agg #[.int .i64 k,.int .i64 n,.bool x,u])/\ZJ.YL TR TC w.heap.size w' u rs/\Below w.heap.size w w':=by
 have HK:=aT C;have HCs:=aT hcs;obtain⟨a',c',he,h⟩:=h;rw[C] at he;obtain⟨rfl,rfl⟩:ra=a'/\rc=c':=by injection he with h1 h2 h3;exact⟨h1,h3⟩
 have HC:=aT h;clear he;obtain⟨i0,XW,SC,Vo,TF⟩:=PH rY;obtain⟨w1,Jy⟩:∃z,w.alloc (.cells #[.int .i64 k,.int .i64 n,.bool x,.slice ra K rc] TDp)=z:=⟨_,rfl⟩;obtain⟨w2,hw2⟩:∃z,w1.alloc (.cells #[.int .i64 0,.int .i64 0,.bool false,.slice none 0 0] V1)=z:=⟨_,rfl⟩;obtain⟨w3,hw3⟩:∃z,w2.alloc (.cells #[.int .i64 k,.int .i64 n,.bool x,.slice none 0 0] V1)=z:=⟨_,rfl⟩;have s1:w1.heap.size=w.heap.size+1:=by rw[<-Jy,ai]
 have s2:w2.heap.size=w.heap.size+1+1:=by rw[<-hw2,ai,s1]
 have FW:Hid (OfL w.heap.size (w.heap.size+1+1) w #[.int .i64 k,.int .i64 n,.bool x,.slice ra K rc] #[.int .i64 k,.int .i64 n,.bool x,.slice none 0 0] rs (.slice none 0 0) 0 w3):=by
  have b3:Below w2.heap.size w2 w3:=by rw[<-hw3];exact Yk w2 _
  have b2:Below w1.heap.size w1 w3:=by
   have:Below w1.heap.size w1 w2:=by rw[<-hw2];exact Yk w1 _
   exact this.trans (b3.mono this.size)
  have b1:Below w.heap.size w w3:=by
   have:Below w.heap.size w w1:=by rw[<-Jy];exact Yk w _
   exact this.trans (b2.mono this.size)
  have B0:Z8 w3 w.heap.size TDp #[.int .i64 k,.int .i64 n,.bool x,.slice ra K rc]:=(by rw[<-Jy];exact Z8.new w _ _:Z8 w1 w.heap.size TDp #[.int .i64 k,.int .i64 n,.bool x,.slice ra K rc]).below b2 jO;have B1:Z8 w3 w1.heap.size V1 #[.int .i64 0,.int .i64 0,.bool false,.slice none 0 0]:=(by rw[<-hw2];exact Z8.new w1 _ _:Z8 w2 w1.heap.size V1 #[.int .i64 0,.int .i64 0,.bool false,.slice none 0 0]).below b3 jO;have B2:Z8 w3 w2.heap.size V1 #[.int .i64 k,.int .i64 n,.bool x,.slice none 0 0]:=by rw[<-hw3];exact Z8.new w2 _ _
  rw[s1] at B1;rw[s2] at B2;exact⟨B0,B1,B2,ZJ.YL.nil _ _ _ _,b1,rfl⟩
 have HW:=aT (And.intro Jy (And.intro hw2 hw3));clear C h Jy hw2 hw3 s1 s2 hcs;go_enter func11,ntmps11;go_upto_region 3 with fail;rw[HW.out.1,HW.out.2.1,HW.out.2.2];clear HW;obtain⟨X,hX⟩:=jX (w.heap.size+1+1);rw[hX] at FW ⊢;have HXe:=aT hX;have hsX:w.heap.size<X:=jO;clear hX;go_loopg [4] (K+1) (λgg s4 wr=>∃(q:Nat) (u:Value),q<=K/\K-q<gg/\s4=.int .i64 (q:Int)/\Hid (OfL w.heap.size X w #[.int .i64 k,.int .i64 n,.bool x,.slice ra K rc] #[.int .i64 k,.int .i64 n,.bool x,u] rs u q wr));case atStart=>exact⟨0,_,abb _,jO,rfl,FW⟩
 case round=>
  obtain⟨q,u,hqK,VM,rfl,U⟩:=hrel;clear FW;have q0':=jZ q;obtain⟨⟨b0,b1,b2,b3⟩,_⟩:=Z7 U.pb;obtain⟨xa,xc,hu⟩:=U.row.slice;rw[take_len HK.out hqK] at hu;subst hu;by_cases hlt:q<K
  ·have Zc:(q:Int)<(K:Int):=by omega
   have kZ:=jW q;obtain⟨⟨nm,rk,rn,cs⟩,hc⟩:∃c,rs[q]? =some c:=⟨_,aM (by rw[HK.out];exact hlt)⟩;obtain⟨gu,off,ua,uc,rfl,I7,c0,c1,c2,c3,dN⟩:=HC q _ hc;have I9:cs.length<=1000000:=HCs _ (ag hc);dsimp only at c0 c1 c2 c3 dN;obtain⟨CL,hCL⟩:=jX cs.length;rw[hCL] at c3 I9;have gy:gu<w.heap.size:=acf I7 hN;have Ek:Hid (rs.take (q+1)=rs.take q++[⟨nm,rk,rn,cs⟩]):=by show _=_;rw[afb,hc];rfl
   have NS:Hid (∀W:World,Below X wr W->W.cell? ⟨w.heap.size,3,none⟩=some (.slice (some ⟨gu,off,none⟩) K rc)/\W.cell? ⟨gu,off+q*4,none⟩=some (.string nm)/\W.cell? ⟨gu,off+q*4+1,none⟩=some (.int .i64 rk)/\W.cell? ⟨gu,off+q*4+2,none⟩=some (.int .i64 rn)/\W.cell? ⟨gu,off+q*4+3,none⟩=some (.slice ua CL uc)):=λW hW=>by
    have ce:∀j v,w.cell? ⟨gu,j,none⟩=some v->W.cell? ⟨gu,j,none⟩=some v:=λj v hv=>(hW.cell (p:=⟨gu,j,none⟩) (show gu<X from jO)).trans ((U.Zs.cell (p:=⟨gu,j,none⟩) gy).trans hv)
    exact⟨(hW.cell (p:=⟨w.heap.size,3,none⟩) hsX).trans b3,ce _ _ c0,ce _ _ c1,ce _ _ c2,ce _ _ c3⟩
   have mK:Hid (∀W,Below wr.heap.size wr W->Calls prog 28 #[.agg #[.string nm,.int .i64 rk,.int .i64 rn,.slice ua CL uc]] W λe w'=>∃u,e=.returned (.agg #[.string nm,.int .i64 rk,.int .i64 rn,u])/\w'.ownsRow W.heap.size TC 4 u CL (ZJ.Wo cs)/\Below W.heap.size W w'):=λW hW=>
    uQ hCL I9 W (aO hN (aO U.Zs.size hW.size)) ((dN.below U.Zs hN).below hW (aO hN U.Zs.size))
   have Df:=aT hCL;have jg:X<wr.heap.size:=U.xb.lt;have kd:Below X wr wr.drew:=(aG X wr).drew;have kdw:Below wr.heap.size wr wr.drew:=(aG _ wr).drew;have x3:wr.cell? ⟨X,3,none⟩=some (.slice xa q xc):=U.xb.cell 3;clear c0 c1 c2 c3 hc b0 b1 b2 dN hCL;go_upto_region 5 with fail;refine agc (S:=λw'=>w'.cell? ⟨w.heap.size,3,none⟩=some (.slice (some ⟨gu,off,none⟩) K rc)/\w'.cell? ⟨gu,off+q*4,none⟩=some (.string nm)/\w'.cell? ⟨gu,off+q*4+1,none⟩=some (.int .i64 rk)/\w'.cell? ⟨gu,off+q*4+2,none⟩=some (.int .i64 rn)/\w'.cell? ⟨gu,off+q*4+3,none⟩=some (.slice ua CL uc)) jK (NS _ (by first|(with_reducible assumption)|(with_reducible exact kd))) (λhHeld=> ?_);refine jT 0 ⟨some 22,.fieldAddr 51 (.tmp 3) 2,0,"top.go:20",#[],none⟩ ?_;try simp only[Act.put,aS,aQ,aR]
   refine jT 2 ⟨some 24,.fieldAddr 37 (.tmp 1) 2,0,"top.go:20",#[],none⟩ ?_;try simp only[Act.put,aS,aQ,aR]
   refine jT 3 ⟨some 25,.load 35 (.tmp 24),35,"top.go:20",#[⟨2,.data⟩],none⟩ ?_;try simp only[Act.put,aS,aQ,aR]
   refine jT 4 ⟨some 26,.move (.tmp 4),3,"top.go:20",#[],none⟩ ?_;try simp only[Act.put,aS,aQ,aR]
   refine jT 5 ⟨some 27,.indexAddr 35 (.tmp 25) (.tmp 26),0,"top.go:20",#[⟨3,.data⟩,⟨4,.data⟩],none⟩ ?_;try simp only[Act.put,aS,aQ,aR]
   refine jT 6 ⟨some 28,.load 34 (.tmp 27),34,"top.go:20",#[⟨5,.data⟩],none⟩ ?_;try simp only[Act.put,aS,aQ,aR]
   refine aag (rs:=[1,7]) jK jS ?_;refine ae (o:=pd) rfl (λK' C=> ?ab5) (ae (o:=eO) rfl (λK' C=> ?ab6) aad)
   case' ab5=>
    go_simp;refine C _ _ hHeld (λhHeld=> ?_);clear C K';try simp only[Act.put,aS,aQ,aR]
    refine aag (rs:=[7]) jK jS ?_;refine ae (o:=eO) rfl (λK' C=> ?ay5) aad;go_simp;refine(mK _ kdw).mono ?_;rintro e Y ⟨un,rfl,J,Uw⟩;obtain⟨I,D,rfl⟩:=ZY J;have T:Below wr.heap.size wr Y:=(aG _ wr).drew.trans Uw;have k7:Below X wr Y:=T.mono (acd jg);have pj:=T.trans ((Yk Y (.cells #[.string nm,.int .i64 rk,.int .i64 rn,.slice I CL D] TR)).mono T.size);have k8:Below X wr (Y.alloc (.cells #[.string nm,.int .i64 rk,.int .i64 rn,.slice I CL D] TR)):=pj.mono (acd jg);have A:=aT (U.to pj);have HI7:=aT (U.to T);have HNw:=aT (Ze J (show X+1<=wr.heap.size from jO));have x7:Y.cell? ⟨X,3,none⟩=some (.slice xa q xc):=(U.to T).xb.cell 3;have x8:(Y.alloc (.cells #[.string nm,.int .i64 rk,.int .i64 rn,.slice I CL D] TR)).cell? ⟨X,3,none⟩=some (.slice xa q xc):=A.xb.cell 3;have hs8:X+1<=(Y.alloc (.cells #[.string nm,.int .i64 rk,.int .i64 rn,.slice I CL D] TR)).heap.size:=A.xb.lt;obtain⟨us,hu1,pZ,hu3⟩:=HI7.row;rw[take_len HK.out hqK] at hu1 pZ;have HU1:=aT hu1;have HU2:=aT pZ;have HU3:=aT hu3;have Z:=aT (ZF pZ (Yk Y (.cells #[.string nm,.int .i64 rk,.int .i64 rn,.slice I CL D] TR)));clear hu1 pZ hu3 J;refine C _ _ (NS _ (by first|(with_reducible assumption)|(with_reducible exact kd))) (λhHeld=> ?_);clear C K';try simp only[Act.put,aS,aQ,aR]
    refine aag (rs:=[8]) jK jS ?_;refine ae (o:=o9) rfl (λK' C=> ?ay6) aad;go_simp;refine C _ _ (NS _ (by first|(with_reducible assumption)|(with_reducible exact kd))) (λhHeld=> ?_);clear C K';try simp only[Act.put,aS,aQ,aR]
   case' ab6=>
    go_simp;refine(mK _ kdw).mono ?_;rintro e Y ⟨un,rfl,J,Uw⟩;obtain⟨I,D,rfl⟩:=ZY J;have T:Below wr.heap.size wr Y:=(aG _ wr).drew.trans Uw;have k7:Below X wr Y:=T.mono (acd jg);have pj:=T.trans ((Yk Y (.cells #[.string nm,.int .i64 rk,.int .i64 rn,.slice I CL D] TR)).mono T.size);have k8:Below X wr (Y.alloc (.cells #[.string nm,.int .i64 rk,.int .i64 rn,.slice I CL D] TR)):=pj.mono (acd jg);have A:=aT (U.to pj);have HI7:=aT (U.to T);have HNw:=aT (Ze J (show X+1<=wr.heap.size from jO));have x7:Y.cell? ⟨X,3,none⟩=some (.slice xa q xc):=(U.to T).xb.cell 3;have x8:(Y.alloc (.cells #[.string nm,.int .i64 rk,.int .i64 rn,.slice I CL D] TR)).cell? ⟨X,3,none⟩=some (.slice xa q xc):=A.xb.cell 3;have hs8:X+1<=(Y.alloc (.cells #[.string nm,.int .i64 rk,.int .i64 rn,.slice I CL D] TR)).heap.size:=A.xb.lt;obtain⟨us,hu1,pZ,hu3⟩:=HI7.row;rw[take_len HK.out hqK] at hu1 pZ;have HU1:=aT hu1;have HU2:=aT pZ;have HU3:=aT hu3;have Z:=aT (ZF pZ (Yk Y (.cells #[.string nm,.int .i64 rk,.int .i64 rn,.slice I CL D] TR)));clear hu1 pZ hu3 J;refine C _ _ (NS _ (by first|(with_reducible assumption)|(with_reducible exact kd))) (λhHeld=> ?_);clear C K';try simp only[Act.put,aS,aQ,aR]
    refine aag (rs:=[1,8]) jK jS ?_;refine ae (o:=pd) rfl (λK' C=> ?ab7) (ae (o:=o9) rfl (λK' C=> ?ab8) aad)
   case' ab7=>
    go_simp;refine C _ _ hHeld (λhHeld=> ?_);clear C K';try simp only[Act.put,aS,aQ,aR]
    refine aag (rs:=[8]) jK jS ?_;refine ae (o:=o9) rfl (λK' C=> ?ay7) aad;go_simp;refine C _ _ (NS _ (by first|(with_reducible assumption)|(with_reducible exact kd))) (λhHeld=> ?_);clear C K';try simp only[Act.put,aS,aQ,aR]
   case' ab8=>
    go_simp;refine C _ _ (NS _ (by first|(with_reducible assumption)|(with_reducible exact kd))) (λhHeld=> ?_);clear C K';try simp only[Act.put,aS,aQ,aR]
    refine aag (rs:=[1]) jK jS ?_;refine ae (o:=pd) rfl (λK' C=> ?ay8) aad;go_simp;refine C _ _ hHeld (λhHeld=> ?_);clear C K';try simp only[Act.put,aS,aQ,aR]
   all_goals (
    refine aag (rs:=[9]) jK jS ?_;refine ae (o:=⟨some 31,.call {callee:=.builtin .append,args:=#[.tmp 23,.tmp 30],argTypes:=#[49,49]},49,"top.go:20",#[⟨1,.data⟩,⟨8,.data⟩,⟨7,.chain⟩],none⟩) rfl (λK' C=> ?_) aad;refine step_append_lies _ rfl _ _ 49 rfl (X+1) TR i0 (.agg #[.string ⟨#[]⟩,.int .i64 0,.int .i64 0,.slice none 0 0]) 4 56 underlying49 XW SC Vo TF rfl jD (.slice xa q xc) q (ZJ.VP (rs.take q) us) rfl Z ⟨Y.heap.size,0,none⟩ 1 1 [.string nm,.int .i64 rk,.int .i64 rn,.slice I CL D] rfl rfl (World.news_of_block (Z8.new Y _ _)) (by simp[Value.oneCell']) jD (by unfold maxLen;omega) jO hs8 _ rfl ?_;intro gb cap w8 MG LY KH kO;have uf:=A.xb.kept LY (λe=>YZ Z A.xb jD e.symm);have c8:w8.cell? ⟨X,3,none⟩=some (.slice xa q xc):=uf.cell 3;have f8:=uf.frozen 3;have k9:Below X wr w8:=k8.grown LY (acd hs8) (λk e=>by have:=(Z.lt k e).1;omega);have kj:=k9.setCell (p:=⟨X,3,none⟩) (aP X) (.slice (some ⟨gb,0,none⟩) (q+1) cap);have Eb:=aT LY;have IW:=aT MG;clear LY MG KH uf;refine C _ _ (NS _ (by first|(with_reducible assumption)|(with_reducible exact kd))) (λhHeld=> ?_);clear C K';try simp only[Act.put,aS,aQ,aR]
    refine jT 10 ⟨some 32,.fieldAddr 51 (.tmp 3) 2,0,"top.go:20",#[⟨0,.phase⟩,⟨1,.phase⟩,⟨2,.phase⟩,⟨3,.phase⟩,⟨4,.phase⟩,⟨5,.phase⟩,⟨6,.phase⟩,⟨7,.phase⟩,⟨8,.phase⟩,⟨9,.phase⟩],none⟩ ?_;try simp only[Act.put,aS,aQ,aR]
    refine aag (rs:=[11]) jK jS ?_;refine ae (o:=⟨none,.store 49 (.tmp 32) (.tmp 31),0,"top.go:20",#[⟨10,.data⟩,⟨9,.data⟩,⟨9,.chain⟩,⟨0,.phase⟩,⟨1,.phase⟩,⟨2,.phase⟩,⟨3,.phase⟩,⟨4,.phase⟩,⟨5,.phase⟩,⟨6,.phase⟩,⟨7,.phase⟩,⟨8,.phase⟩,⟨9,.phase⟩],none⟩) rfl (λK' C=> ?_) aad;go_simp;refine C _ _ (NS _ (by first|(with_reducible assumption)|(with_reducible exact kd))) (λhHeld=> ?_);clear C K';try simp only[Act.put,aS,aQ,aR]
    refine akc jK ?_ _)
   all_goals (
    have ni:Hid (OfL w.heap.size X w #[.int .i64 k,.int .i64 n,.bool x,.slice (some ⟨gu,off,none⟩) K rc] #[.int .i64 k,.int .i64 n,.bool x,.slice (some ⟨gb,0,none⟩) (q+1) cap] rs (.slice (some ⟨gb,0,none⟩) (q+1) cap) (q+1) (w8.setCell ⟨X,3,none⟩ (.slice (some ⟨gb,0,none⟩) (q+1) cap))):=by have hR8:=A.pb.kept Eb (λe=>YZ Z A.pb jD e.symm);have hZ8:=A.zb.kept Eb (λe=>YZ Z A.zb jD e.symm);have uf:=A.xb.kept Eb (λe=>YZ Z A.xb jD e.symm);have he:=HXe.out;refine⟨hR8.other jO 3 _,hZ8.other jO 3 _,uf.set 3 _,?_,(A.Zs.grown Eb (acd A.pb.lt) (λk e=>by have:=(Z.lt k e).1;omega)).setCell (p:=⟨X,3,none⟩) (acd hsX) _,he.symm⟩;rw[Ek.out];exact ZJ.Az (us:=us) (by rw[HU1.out,take_len HK.out hqK]) (by rw[take_len HK.out hqK];exact HU2) HU3 (by rw[Df.out];exact HNw) Eb (by rw[take_len HK.out hqK];exact IW)
    clear U A HI7 Eb IW HU1 HU2 HU3 Z HNw k9 kj k8 k7 c8 f8 x7 x8;go_wp2_with fail;go_roundg (K-q)
    (case measure=>omega)
    (case rel=>exact⟨q+1,_,jO,jO,by go_num,ni⟩))
  ·obtain rfl:q=K:=by omega
   have Zc:¬(q:Int)<(q:Int):=jO;have pg:Hid (rs.take q=rs):=abd (by rw[HK.out];exact aP _);obtain⟨⟨x0,x1,x2,x3⟩,_⟩:=Z7 U.xb;obtain⟨⟨z0,z1,z2,z3⟩,f0,f1,f2,f3⟩:=Z7 U.zb;go_wp2_with fail;have hz:=U.zb;refine aaf (Nf rfl (.inr (.inr rfl)) (ZH hz _ _ _ _) rfl) rfl ?_;refine⟨_,rfl,?_,ZG U.Zs jO _ _ _ _⟩;have hrow:=U.row;rw[pg.out] at hrow;exact o5 (SI (SI (SI (SI hrow hz jD jD 0 _) (hz.set 0 _) jD jD 1 _) ((hz.set 0 _).set 1 _) jD jD 2 _) (((hz.set 0 _).set 1 _).set 2 _) jD jD 3 _) jO
def leB:Nat->Nat->List Nat
 |0,_=>[]
 |k+1,n=>n%256::leB k (n/256)
theorem Yw:∀k n:Nat,(leB k n).length=k
 |0,_=>rfl
 |k+1,n=>by rw[leB,aj,Yw k]
theorem J5:∀k n:Nat,∀b∈leB k n,b<256
 |0,_,b,h=>by simp[leB] at h
 |k+1,n,b,h=>by
  rw[leB,abf] at h;rcases h with rfl|h;·exact ave _ jD
  ·exact J5 k _ b h
theorem De:∀k n:Nat,leB (k+1) n=leB k n++[n/256 ^ k%256]
 |0,n=>by simp[leB]
 |k+1,n=>by rw[leB,De k (n/256),Nat.div_div_eq_div_mul,show(256:Nat) ^ (k+1)=256*256 ^ k by rw[Nat.pow_succ,Nat.mul_comm]];rfl
abbrev TB:Nat:=5
theorem J4(a b:List Nat):Zn (a++b)=Zn a++Zn b:=by unfold Zn;rw[adb]
theorem Na(bs:List Nat):∀u∈Zn bs,u.oneCell'=true:=by
 intro u hu;obtain⟨b,_,rfl⟩:=ah.1 hu;rfl
theorem yl {base e s n:Nat}{v:Value}{xs:List Value}(h:W.ownsRow base e s v n xs)(hn:0<n):∃g c,v=.slice (some ⟨g,0,none⟩) n c:=by
 rcases h.2 with⟨rfl,C⟩|⟨g,cap,A,rfl,_⟩;·omega
 ·exact⟨_,_,rfl⟩
theorem Aw(n K:Nat)(hn:n<YO)(hK:K<=8)(w:World):
 Calls prog 66 #[.int .u64 n,.int .i64 K] w λe w'=>∃v,e=.returned v/\w'.ownsRow w.heap.size TB 1 v K (Zn (leB K n))/\Below w.heap.size w w':=by
 obtain⟨i0,hi,hz0,hz1,hz2⟩:=ZQ yH;go_enter func66,ntmps66;go_upto_region 3 with fail;go_loopg [0,5,6] (K+1) (λgg cv v iv wr=>∃i c:Nat,i<=K/\K-i<gg/\iv=.int .i64 (i:Int)/\cv=.int .u64 (c:Int)/\c<YO/\Hid (c=n/256 ^ i)/\Hid (wr.ownsRow w.heap.size TB 1 v i (Zn (leB i n)))/\Hid (Below w.heap.size w wr));case atStart=>exact⟨0,n,abb _,jO,rfl,rfl,hn,(show n=n/256 ^ 0 from jS),Yg _ _ _ _,aG _ _⟩
 case round=>
  obtain⟨i,c,hiK,VM,rfl,rfl,U,HC,HR,Z⟩:=hrel;have Cq:=jZ i;by_cases hlt:i<K
  ·have T:(i:Int)<(K:Int):=by omega
   have JS:=jW i;have aF9:c<18446744073709551616:=U;have b0:IntKind.u8.wrap ((c:Int)%256)=((c%256:Nat):Int):=by rw[atd];omega
   obtain⟨q,hq,I⟩:∃q:Nat,(c:Int).tdiv 256=(q:Int)/\q=c/256:=⟨c/256,by rw[aqd jO];rfl,rfl⟩;have J:q<YO:=by rw[I];exact azc (Nat.div_le_self _ _) U
   have aG0:q<18446744073709551616:=J;have nA:Hid (q=n/256 ^ (i+1)):=by show _=_;rw[I,HC.out,Nat.div_div_eq_div_mul,Nat.pow_succ]
   have hqw:IntKind.u64.wrap (q:Int)=(q:Int):=by rw[IntKind.wrap_u64];omega
   clear I;have HS:Hid (leB (i+1) n=leB i n++[c%256]):=by show _=_;rw[De,HC.out]
   have Y:=aT (ZF HR (Yk wr (.cells #[.int .u8 ((c%256:Nat):Int)] TB)));have D:w.heap.size<=(wr.alloc (.cells #[.int .u8 ((c%256:Nat):Int)] TB)).heap.size:=aO Z.size (Yk wr _).size;have X1:=aT (Z.alloc Z.size (.cells #[.int .u8 ((c%256:Nat):Int)] TB))
   go_wp2_with (at_builtin;refine aea _ rfl _ _ 42 rfl w.heap.size TB i0 (.int .u8 0) 1 1 underlying42 hi hz0 hz1 hz2 rfl jD _ i _ rfl Y ⟨wr.heap.size,0,none⟩ 1 1 [.int .u8 ((c%256:Nat):Int)] rfl ?c1 ?c2 ?c3 ?c4 ?c5 ?c6 ?_;(case c1=>rfl);(case c2=>exact Y1 rfl);(case c3=>simp[Value.oneCell']);(case c4=>unfold maxLen;omega);(case c5=>omega);(case c6=>exact D);intro v' w6 A C _)
   have oZ:Hid (w6.ownsRow w.heap.size TB 1 v' (i+1) (Zn (leB (i+1) n))):=by show World.ownsRow _ _ _ _ _ _ _;rw[HS.out,J4];exact A
   have CT:Hid (Below w.heap.size w w6):=X1.grown C D (λk e=>(Y.lt k e).1);clear A C;go_wp2_with fail;go_roundg (K-i);case measure=>omega
   case rel=>exact⟨i+1,q,jO,jO,by go_num,rfl,J,nA,oZ,CT⟩
  ·obtain rfl:i=K:=by omega
   have T:¬(i:Int)<(i:Int):=jO;go_wp2_with fail;go_ret;exact⟨_,rfl,HR,Z⟩
theorem QU(n K:Nat)(hn:n<YO)(A:0<K/\K<=8)(w:World):
 Calls prog 31 #[.int .u64 n,.int .i64 K,.bool false] w λe w'=>∃g c,e=.returned (.slice (some ⟨g,0,none⟩) K c)/\w'.ownsRow w.heap.size TB 1 (.slice (some ⟨g,0,none⟩) K c) K (Zn (leB K n))/\Below w.heap.size w w':=by
 have D:=aT (λW=>Aw n K hn A.2 W);go_enter func31,ntmps31
 go_wp2_with (go_at_call 66;refine(D _).mono ?_;rintro e J ⟨v,rfl,hr,hb⟩;obtain⟨g,c,rfl⟩:=yl hr A.1;have C:=aT hr;have I:=aT hb;clear hr hb)
 go_ret;exact⟨_,_,rfl,C,I⟩
end Go.Proofs.YtclgigmgbebhgaaGreatDoor
