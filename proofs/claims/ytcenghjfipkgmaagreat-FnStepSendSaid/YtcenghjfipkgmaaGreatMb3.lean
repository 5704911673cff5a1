/- Lemmas. -/
import Derived.Test.YtcenghjfipkgmaaGreatMb2
set_option linter.unusedSimpArgs false
set_option linter.unusedVariables false
namespace Go.Proofs
open Go.Vc Go.Proofs.Tryz
def cY (x:Int):Prop:=-9223372036854775808<=x/\x<=9223372036854775807
structure eD where
 bU:Int
 fields:List Int
structure dY where
 told:Bool
 locals:List Int
 stack:List Int
structure ez where
 kind:Int
 a:Int
 b:Int
structure nK where
 lo:Int
 hi:Int
 to:Int
 cls:Int
structure cL where
 cls:Int
 fG:Int
 args:List Int
 out:Int
 locals:Int
 code:List ez
 aQ:List dY
 catches:List nK
structure aO where
 J:List eD
 methods:List cL
structure Vl where
 ref:Bool
 n:Int
structure Ob where
 cls:Int
 aW:List Vl
structure bQ where
 U:Int
 pc:Int
 locals:List Vl
 stack:List Vl
structure bM where
 objs:List Ob
 ag:List bQ
 said:List Int
 steps:Int
 fin:Int
 out:Vl
theorem Cl {h:Heap} {b:Nat}:∀ {n off:Nat} {vs:List Value},fj h b off n=some vs->vs.length=n
 | 0,_,vs,hr=>by simp only[fj,v_]at hr;subst hr;rfl
 | n+1,off,vs,hr=>by
  simp only[fj]at hr;split at hr
  ·rename_i v r h1 h2;simp only[v_]at hr;subst hr;simp[Cl h2]
  ·cases hr
theorem aE {h:Heap} {b:Nat}:∀ {n off:Nat} {vs:List Value},fj h b off n=some vs->∀ {i:Nat} {v:Value},vs[i]? = some v->rd h b (off+i)=some v
 | 0,_,vs,hr,i,v,hv=>by simp only[fj,v_]at hr;subst hr;simp at hv
 | n+1,off,vs,hr,i,v,hv=>by
  simp only[fj]at hr;split at hr
  ·rename_i x r h1 h2;simp only[v_]at hr;subst hr;cases i with
   | zero=>simp at hv;subst hv;exact h1
   | succ i =>
    have:=aE h2 (i:=i) (v:=v) (by simpa using hv);rw[show off+(i+1)=off+1+i by omega];exact this
  ·cases hr
def Row {α:Type} (size:Nat) (R:Heap->List Value->α->Prop) (h:Heap) (v:Value) (l:List α):Prop :=
 l.length<=140737488351232/\∃ p c,v=.slice p l.length c/\l.length<=c/\(l=[]\/∃ b off,p=some ⟨b,off,none⟩/\∀ i x,l[i]? = some x->∃ vs,fj h b (off+i*size) size=some vs/\R h vs x)
theorem bK {h h':Heap} (hl:h.le h') {b n off:Nat} {vs:List Value} (hr:fj h b off n=some vs):fj h' b off n=some vs:=jr hl n off vs hr
theorem Row.le {α:Type} {size:Nat} {R:Heap->List Value->α->Prop} {h h':Heap} {v:Value} {l:List α} (hl:h.le h') (hR:∀ vs x,R h vs x->R h' vs x) (hr:Row size R h v l):Row size R h' v l:=by
 obtain⟨h1,p,c,rfl,h2,h3⟩:=hr;refine⟨h1,p,c,rfl,h2,h3.imp id ?_⟩;rintro⟨b,off,rfl,hx⟩;refine⟨b,off,rfl,λi x hi=>?_⟩;obtain⟨vs,ha,hb⟩:=hx i x hi;exact⟨vs,bK hl ha,hR _ _ hb⟩
theorem Row.get {α:Type} {size:Nat} {R:Heap->List Value->α->Prop} {h:Heap} {p:Option Addr} {n c:Nat} {l:List α} (hr:Row size R h (.slice p n c) l) {i:Nat} (hi:i < l.length) :
  ∃ b off vs,p=some ⟨b,off,none⟩/\fj h b (off+i*size) size=some vs/\R h vs l[i]:=by
 obtain⟨_,p',c',he,_,h3⟩:=hr;simp only[Z_]at he;obtain⟨rfl,rfl,rfl⟩:=he;rcases h3 with rfl|⟨b,off,rfl,hx⟩
 ·simp at hi
 ·obtain⟨vs,ha,hb⟩:=hx i l[i] (by simp[hi]);exact⟨b,off,vs,rfl,ha,hb⟩
theorem Row.len {α:Type} {size:Nat} {R:Heap->List Value->α->Prop} {h:Heap} {v:Value} {l:List α} (hr:Row size R h v l):∃ p c,v=.slice p l.length c/\l.length<=c/\l.length<=140737488351232:=by
 obtain⟨h1,p,c,he,h2,_⟩:=hr;exact⟨p,c,he,h2,h1⟩
def YD (_:Heap) (vs:List Value) (x:Int):Prop:=vs=[.int .i64 x]/\cY x
abbrev dy:=Row 1 YD
def Ap (h:Heap) (vs:List Value) (c:eD):Prop:=∃ f,vs=[.int .i64 c.bU,f]/\cY c.bU/\dy h f c.fields
def mV (h:Heap) (vs:List Value) (s:dY):Prop:=∃ l k,vs=[.bool s.told,l,k]/\dy h l s.locals/\dy h k s.stack
def DU (_:Heap) (vs:List Value) (x:ez):Prop:=vs=[.int .i64 x.kind,.int .i64 x.a,.int .i64 x.b]/\cY x.kind/\cY x.a/\cY x.b
def DV (_:Heap) (vs:List Value) (x:nK):Prop:=vs=[.int .i64 x.lo,.int .i64 x.hi,.int .i64 x.to,.int .i64 x.cls]/\cY x.lo/\cY x.hi/\cY x.to/\cY x.cls
def eM (h:Heap) (vs:List Value) (m:cL):Prop:=∃ a c s k,vs=[.int .i64 m.cls,.int .i64 m.fG,a,.int .i64 m.out,.int .i64 m.locals,c,s,k]/\cY m.cls/\cY m.fG/\cY m.out/\cY m.locals /\
 dy h a m.args/\Row 3 DU h c m.code/\Row 3 mV h s m.aQ/\Row 4 DV h k m.catches
def dG (h:Heap) (vs:List Value) (u:aO):Prop:=∃ c m,vs=[c,m]/\Row 2 Ap h c u.J/\Row 8 eM h m u.methods
theorem dy.le {h h':Heap} {v:Value} {l:List Int} (hl:h.le h') (hr:dy h v l):dy h' v l:=Row.le hl (λ_ _ hx=>hx) hr
theorem Ap.le {h h':Heap} (hl:h.le h') {vs:List Value} {c:eD} (hr:Ap h vs c):Ap h' vs c:=by
 obtain⟨f,a,b,d⟩:=hr;exact⟨f,a,b,d.le hl⟩
theorem mV.le {h h':Heap} (hl:h.le h') {vs:List Value} {c:dY} (hr:mV h vs c):mV h' vs c:=by
 obtain⟨f,g,a,b,d⟩:=hr;exact⟨f,g,a,b.le hl,d.le hl⟩
theorem eM.le {h h':Heap} (hl:h.le h') {vs:List Value} {c:cL} (hr:eM h vs c):eM h' vs c:=by
 obtain⟨a,c,s,k,h0,h1,h2,h3,h4,h5,h6,h7,h8⟩:=hr;exact⟨a,c,s,k,h0,h1,h2,h3,h4,h5.le hl,h6.le hl (λ_ _ hx=>hx),h7.le hl (λ_ _ hx=>hx.le hl),h8.le hl (λ_ _ hx=>hx)⟩
theorem dG.le {h h':Heap} (hl:h.le h') {vs:List Value} {c:aO} (hr:dG h vs c):dG h' vs c:=by
 obtain⟨c,m,h0,h1,h2⟩:=hr;exact⟨c,m,h0,h1.le hl (λ_ _ hx=>hx.le hl),h2.le hl (λ_ _ hx=>hx.le hl)⟩
set_option maxRecDepth 100000
def isWord (n:Int):Bool:=decide (-128<=n/\n<=127)
@[irreducible] def w8 (n:Int):Int:=(n+128) % 256-128
def iJ (op a b:Int):Int × Bool :=
 if isWord a/\isWord b then
  if op=1 then (w8 (a+b),true)else if op=2 then (w8 (a-b),true)else if op=3 then (w8 (a*b),true)
  else if op=4/\b≠0 then (w8 (a.tdiv b),true)else (0,false)
 else (0,false)
def Ue (x:Int × Bool):Value:=.tuple #[.int .i64 x.1,.bool x.2]
theorem DW (n:Int):IntKind.i8.wrap n=w8 n:=by
 simp[IntKind.wrap,IntKind.bits,IntKind.signed,w8];omega
theorem qC (n:Int) : -128<=w8 n/\w8 n<=127:=by unfold w8;omega
theorem fJ {n:Int}:isWord n=true↔-128<=n/\n<=127:=by simp[isWord]
theorem uR {op a b:Int} (h:op < 1\/4 < op\/isWord a=false\/isWord b=false\/(op=4/\b=0)):iJ op a b=(0,false):=by
 unfold iJ;split
 ·rename_i hw;have h':op≠1/\op≠2/\op≠3/\¬(op=4/\b≠0):=by
   rcases h with h|h|h|h|h
   ·omega
   ·omega
   ·rw[hw.1]at h;cases h
   ·rw[hw.2]at h;cases h
   ·omega
  rw[if_neg h'.1,if_neg h'.2.1,if_neg h'.2.2.1,if_neg h'.2.2.2]
 ·rfl
theorem YE {n:Int} (h : -128<=n/\n<=127):w8 n=n:=by unfold w8;omega
theorem uS (n:Int) (h:Heap):Pure prog 33 [.int .i64 n] h (.bool (isWord n)):=by
 refine iC au func33 F33 abd rfl ?_;conv=>whnf
 apply ax<;>intro h1;all_goals conv=>whnf
 all_goals exact⟨by simp[isWord,h1],rfl⟩
theorem dP (n lo hi:Int) (h:Heap):Pure prog 42 [.int .i64 n,.int .i64 lo,.int .i64 hi] h (.bool (decide (lo<=n/\n<=hi))):=by
 refine iC au func42 F42 abm rfl ?_;conv=>whnf
 apply ax<;>intro h1;all_goals conv=>whnf
 all_goals exact⟨by simp[h1],rfl⟩
theorem rj (n:Int) (h:Heap):Pure prog 46 [.int .i64 n] h (.bool (isWord n)):=by
 refine iC au func46 F46 abq rfl ?_;conv=>whnf
 refine aj (dP _ _ _ _) ?_;conv=>whnf
 exact⟨rfl,rfl⟩
theorem YF (a b:Int) (h:Heap):Pure prog 34 [.int .i8 a,.int .i8 b] h (.int .i8 (w8 (a+b))):=by
 refine iC au func34 F34 abe rfl ?_;conv=>whnf
 refine qZ ?_;conv=>whnf
 exact⟨by rw[DW],rfl⟩
theorem YG (a b:Int) (h:Heap):Pure prog 35 [.int .i8 a,.int .i8 b] h (.int .i8 (w8 (a-b))):=by
 refine iC au func35 F35 abf rfl ?_;conv=>whnf
 refine qZ ?_;conv=>whnf
 exact⟨by rw[DW],rfl⟩
theorem YH (a b:Int) (h:Heap):Pure prog 36 [.int .i8 a,.int .i8 b] h (.int .i8 (w8 (a*b))):=by
 refine iC au func36 F36 abg rfl ?_;conv=>whnf
 refine qZ ?_;conv=>whnf
 exact⟨by rw[DW],rfl⟩
theorem YI (a b:Int) (h:Heap) (hb:b≠0):Pure prog 37 [.int .i8 a,.int .i8 b] h (.int .i8 (w8 (a.tdiv b))):=by
 refine iC au func37 F37 abh rfl ?_;conv=>whnf
 refine ob hb ?_;conv=>whnf
 refine qZ ?_;conv=>whnf
 exact⟨by rw[DW],rfl⟩
theorem R2 {a b:Int} (ha : -128<=a/\a<=127) (hb : -128<=b/\b<=127) : -16384<=a*b/\a*b<=16384:=by
 have h1:0<=(128-a)*(128-b):=Int.mul_nonneg (by omega) (by omega);have h2:0<=(128+a)*(128+b):=Int.mul_nonneg (by omega) (by omega);have h3:0<=(128-a)*(128+b):=Int.mul_nonneg (by omega) (by omega);have h4:0<=(128+a)*(128-b):=Int.mul_nonneg (by omega) (by omega);constructor<;>grind
theorem KG {a b:Int} (ha : -128<=a/\a<=127) : -128<=a.tdiv b/\a.tdiv b<=128:=by
 have h:(a.tdiv b).natAbs<=a.natAbs:=by rw[Int.natAbs_tdiv];exact Nat.div_le_self _ _
 omega
theorem AM {op a b:Int} (ha:isWord a=true) (hb:isWord b=true):iJ op a b=if op=1 then (w8 (a+b),true)else if op=2 then (w8 (a-b),true)else if op=3 then (w8 (a*b),true)
  else if op=4/\b≠0 then (w8 (a.tdiv b),true)else (0,false):=by unfold iJ;rw[if_pos ⟨ha,hb⟩]
theorem w8w {a:Int} (ha:isWord a=true):IntKind.i8.wrap a=a:=by rw[DW,YE (fJ.1 ha)]
theorem KH (op a b:Int) (h:Heap):Pure prog 16 [.int .i64 op,.int .i64 a,.int .i64 b] h (Ue (iJ op a b)):=by
 refine iC au func16 F16 aa1 rfl ?_;by_cases hr:op=1\/op=2\/op=3\/op=4
 ·rcases hr with rfl|rfl|rfl|rfl;all_goals
   conv=>whnf
   repeat' ((first
    | apply ax<;>intro h1
    | apply cJ<;>intro h1
    | refine aj (uS _ _) ?_
    | refine aq ?_
    | refine qZ ?_
    | refine aj (YF _ _ _) ?_
    | refine aj (YG _ _ _) ?_
    | refine aj (YH _ _ _) ?_
    | refine aj (YI _ _ _ (by rw[w8w (by assumption)];assumption)) ?_)<;>(conv=>whnf))
   all_goals first
    | (refine⟨?_,rfl⟩;rw[uR (by simp[*])];rfl)
    | (
     refine⟨?_,rfl⟩;have ha:isWord a=true:=by assumption
     have hb:isWord b=true:=by assumption
     rw[AM ha hb,w8w ha,w8w hb,wrap_i64 (by have:=qC (a+b);have:=qC (a-b);have:=qC (a*b);have:=qC (a.tdiv b);omega) (by have:=qC (a+b);have:=qC (a-b);have:=qC (a*b);have:=qC (a.tdiv b);omega)];simp[Ue, *])
 ·conv=>whnf
  repeat' ((first
   | apply ax<;>intro h1)<;>(conv=>whnf))
  all_goals first
   | (refine⟨?_,rfl⟩;rw[uR (by omega)];rfl)
   | (exfalso;omega)
theorem Ox (n:Int) : -255<=n.tmod 256/\n.tmod 256<=255/\(n.tmod 256-n) % 256=0:=by
 rcases Int.lt_or_le n 0 with h|h
 ·have h1:n.tmod 256 = - ((-n) % 256):=by
   rw[show n = - (-n)by omega,Int.neg_tmod,Int.tmod_eq_emod_of_nonneg (by omega)];simp
  omega
 ·rw[Int.tmod_eq_emod_of_nonneg h];omega
theorem FX (n:Int) (h:Heap):Pure prog 213 [.int .i64 n] h (.int .i64 (w8 n)):=by
 refine iC au func213 Yt Yu rfl ?_;have hm:=Ox n;conv=>whnf
 refine aq ?_;conv=>whnf
 repeat' ((first
  | apply ax<;>intro h1
  | refine ah ?_)<;>(conv=>whnf))
 all_goals exact⟨by unfold w8;congr 1;omega,rfl⟩
theorem KI (op a b:Int) (h:Heap):Pure prog 200 [.int .i64 op,.int .i64 a,.int .i64 b] h (Ue (iJ op a b)):=by
 refine iC au func200 X7 X8 rfl ?_;conv=>whnf
 refine aj (rj _ _) ?_;conv=>whnf
 apply cJ<;>intro h1;all_goals conv=>whnf
 ·exact⟨by rw[uR (by simp[*])];rfl,rfl⟩
 refine aj (rj _ _) ?_;conv=>whnf
 apply cJ<;>intro h2;all_goals conv=>whnf
 ·exact⟨by rw[uR (by simp[*])];rfl,rfl⟩
 have ha:=fJ.1 h1;have hb:=fJ.1 h2;have hm:=R2 ha hb;have hq:=KG (b:=b) ha;repeat' ((first
  | apply ax<;>intro h3
  | apply aT<;>intro h3
  | refine ah ?_
  | refine aq ?_
  | refine aj (FX _ _) ?_)<;>(conv=>whnf))
 all_goals (refine⟨?_,rfl⟩;rw[AM h1 h2];simp[Ue, *])
set_option maxHeartbeats 4000000
noncomputable def tf (p:Prop):Value:=.bool (@decide p (Classical.propDecidable p))
theorem fk {p:Prop} (hp:p):tf p=.bool true:=by unfold tf;rw[@decide_eq_true p (Classical.propDecidable p) hp]
theorem dD {p:Prop} (hp:¬p):tf p=.bool false:=by unfold tf;rw[@decide_eq_false p (Classical.propDecidable p) hp]
theorem Aq {p q:Prop} {_:Decidable q} (hp:p↔q):tf p=.bool (decide q):=by
 by_cases hq:q
 ·rw[fk (hp.2 hq),decide_eq_true hq]
 ·rw[dD (λx=>hq (hp.1 x)),decide_eq_false hq]
theorem dZ {p:Prop} (hp:p):Value.bool true=tf p:=(fk hp).symm
theorem bY {p:Prop} (hp:¬p):Value.bool false=tf p:=(dD hp).symm
theorem gy {p q:Prop} {_:Decidable q} (hp:p↔q):Value.bool (decide q)=tf p:=(Aq hp).symm
def eW (n t:Int):Value :=
 if t=0 then .iface 213 (.agg #[])else if t=1 then .iface 189 (.agg #[])else if t=2 then .iface 214 (.agg #[])
 else if t=3 then .iface 191 (.agg #[.bool false])else if t=4 then .iface 191 (.agg #[.bool true])
 else if 8<=t/\t < 8+n then .iface 193 (.agg #[.int .i64 (t-8)])else .nilIface
theorem uT (n t:Int) (h:Heap) (hn:0<=n/\n<=140737488351232) (ht:cY t):Pure prog 174 [.int .i64 n,.int .i64 t] h (eW n t):=by
 obtain⟨t0,t1⟩:=ht;refine iC au func174 Xj Xk rfl ?_;conv=>whnf
 repeat' ((first
  | apply ax<;>intro h1
  | refine ah ?_)<;>conv=>whnf)
 all_goals exact⟨by simp[eW, *];try omega,rfl⟩
def dg (n t:Int):Prop:=t=1\/t=3\/t=4\/(8<=t/\t < 8+n)
theorem ry (n t:Int) (h:Heap) (hn:0<=n/\n<=140737488351232) (ht:cY t):Pure prog 136 [.int .i64 n,.int .i64 t] h (tf (dg n t)):=by
 refine iC au func136 Wh Wi rfl ?_;have c:=uT n t h hn ht;have hk:∀ v,eW n t=v->Pure prog 174 [.int .i64 n,.int .i64 t] h v:=by rintro v rfl;exact c
 have uU:t=0\/t=1\/t=2\/t=3\/t=4\/(8<=t/\t < 8+n)\/(t≠0/\t≠1/\t≠2/\t≠3/\t≠4/\¬(8<=t/\t < 8+n)):=by omega
 conv=>whnf
 rcases uU with rfl|rfl|rfl|rfl|rfl|h1|⟨h1,h2,h3,h4,h5,h6⟩
 ·refine aj (hk (.iface 213 (.agg #[])) (by simp[eW])) ?_;conv=>whnf
  refine fH rfl (λw=>rfl) ?_;conv=>whnf
  refine fH rfl (λw=>rfl) ?_;conv=>whnf
  refine fH rfl (λw=>rfl) ?_;conv=>whnf
  exact⟨by rw[dD];unfold dg;omega,rfl⟩
 ·refine aj (hk (.iface 189 (.agg #[])) (by simp[eW])) ?_;conv=>whnf
  refine fH rfl (λw=>rfl) ?_;conv=>whnf
  refine fH rfl (λw=>rfl) ?_;conv=>whnf
  refine fH rfl (λw=>rfl) ?_;conv=>whnf
  exact⟨by rw[fk];unfold dg;omega,rfl⟩
 ·refine aj (hk (.iface 214 (.agg #[])) (by simp[eW])) ?_;conv=>whnf
  refine fH rfl (λw=>rfl) ?_;conv=>whnf
  refine fH rfl (λw=>rfl) ?_;conv=>whnf
  refine fH rfl (λw=>rfl) ?_;conv=>whnf
  exact⟨by rw[dD];unfold dg;omega,rfl⟩
 ·refine aj (hk (.iface 191 (.agg #[.bool false])) (by simp[eW])) ?_;conv=>whnf
  refine fH rfl (λw=>rfl) ?_;conv=>whnf
  refine fH rfl (λw=>rfl) ?_;conv=>whnf
  refine fH rfl (λw=>rfl) ?_;conv=>whnf
  exact⟨by rw[fk];unfold dg;omega,rfl⟩
 ·refine aj (hk (.iface 191 (.agg #[.bool true])) (by simp[eW])) ?_;conv=>whnf
  refine fH rfl (λw=>rfl) ?_;conv=>whnf
  refine fH rfl (λw=>rfl) ?_;conv=>whnf
  refine fH rfl (λw=>rfl) ?_;conv=>whnf
  exact⟨by rw[fk];unfold dg;omega,rfl⟩
 ·refine aj (hk (.iface 193 (.agg #[.int .i64 (t-8)])) (by simp only[eW];(repeat' split)<;>first|rfl|(exfalso;omega))) ?_;conv=>whnf
  refine fH rfl (λw=>rfl) ?_;conv=>whnf
  refine fH rfl (λw=>rfl) ?_;conv=>whnf
  refine fH rfl (λw=>rfl) ?_;conv=>whnf
  exact⟨by rw[fk];unfold dg;omega,rfl⟩
 ·refine aj (hk .nilIface (by simp[eW, *])) ?_;conv=>whnf
  refine fH rfl (λw=>rfl) ?_;conv=>whnf
  refine fH rfl (λw=>rfl) ?_;conv=>whnf
  refine fH rfl (λw=>rfl) ?_;conv=>whnf
  exact⟨by rw[dD];unfold dg;omega,rfl⟩
theorem oL (p:Option Addr) (n c:Nat) (x:Int) (h:Heap):Pure prog 39 [.slice p n c,.int .i64 x] h (tf (0<=x/\x < n)):=by
 refine iC au func39 F39 abj rfl ?_;conv=>whnf
 apply ax<;>intro h1;all_goals conv=>whnf
 ·exact⟨by rw[Aq (q:=x < n)];omega,rfl⟩
 ·exact⟨by rw[dD];omega,rfl⟩
def bG (cs:List eD) (c:Int):Int:=match cs[c.toNat]? with
 | some x=>x.bU
 | none=>-1
theorem mW {cs:List eD} {i:Nat} (hi:i < cs.length):bG cs i=cs[i].bU:=by simp[bG,hi]
def iS (n:Nat) (l:List Int):Prop:=∀ t∈l,dg n t
def yO (n:Nat) (i:Nat) (c:eD):Prop:=iS n c.fields/\(i=0->c.bU = -1/\c.fields=[])/\(i=1->c.bU=0/\c.fields=[1])/\(1 < i->0<=c.bU/\c.bU < i)/\c.fields.length<=2
def cI (cs:List eD):Prop:=2<=cs.length/\cs.length<=5/\∀ i (hi:i < cs.length),yO cs.length i cs[i]
abbrev fP:=Row 2 Ap
theorem fP.at {h:Heap} {p:Option Addr} {n c:Nat} {cs:List eD} (hr:fP h (.slice p n c) cs) {i:Nat} (hi:i < cs.length) :
  ∃ b off q k d,p=some ⟨b,off,none⟩/\fj h b (off+i*2) 2=some [.int .i64 cs[i].bU,.slice q k d]/\rd h b (off+i*2)=some (.int .i64 cs[i].bU)/\rd h b (off+i*2+1)=some (.slice q k d)/\cY cs[i].bU/\dy h (.slice q k d) cs[i].fields/\k=cs[i].fields.length:=by
 obtain⟨b,off,vs,hp,h1,f,rfl,h2,h3⟩:=hr.get hi;obtain⟨q,d,rfl,_,_⟩:=h3.len;exact⟨b,off,q,_,d,hp,h1,aE h1 (i:=0) rfl,aE h1 (i:=1) rfl,h2,h3,rfl⟩
theorem KJ {l:List Int} {x:Int} (h1:l.length=1) (h2:l[0]=x):l=[x]:=by
 match l,h1,h2 with
 | [y],_,h2=>simp at h2;rw[h2]
theorem DX (p:Option Addr) (n c:Nat) (cs:List eD) (h:Heap) (hr:fP h (.slice p n c) cs):Pure prog 70 [.slice p n c] h (tf (cI cs)):=by
 obtain rfl:n=cs.length:=by obtain⟨_,_,he,_⟩:=hr.len;injection he
 have hl:cs.length<=140737488351232:=by obtain⟨_,_,_,_,he⟩:=hr.len;omega
 refine iC au func70 F70 abK rfl ?_;conv=>whnf
 apply ax<;>intro h1;all_goals conv=>whnf
 ·exact⟨by rw[dD];rintro⟨h2,_⟩;omega,rfl⟩
 apply ax<;>intro h2;all_goals conv=>whnf
 ·exact⟨by rw[dD];rintro⟨_,h3,_⟩;omega,rfl⟩
 obtain⟨b,off,q0,k0,d0,hp,a1,a2,a3,a4,a5,a6⟩:=hr.at (i:=0) (by omega);obtain⟨b',eJ,q1,k1,d1,Oy,b1,b2,b3,b4,b5,b6⟩:=hr.at (i:=1) (by omega);rw[hp]at Oy;simp only[v_,Addr.mk.injEq,and_true]at Oy;obtain⟨rfl,rfl⟩:=Oy;subst hp;refine aq ?_;conv=>whnf
 refine ptr ?_;conv=>whnf
 refine ld a2 ?_;conv=>whnf
 apply aT<;>intro h3;all_goals conv=>whnf
 ·exact⟨by rw[dD];rintro⟨_,_,h4⟩;exact h3 ((h4 0 (by omega)).2.1 rfl).1,rfl⟩
 refine aq ?_;conv=>whnf
 refine ptr ?_;conv=>whnf
 refine ld a3 ?_;conv=>whnf
 apply aT<;>intro h4;all_goals conv=>whnf
 ·exact⟨by rw[dD];rintro⟨_,_,h5⟩;refine h4 ?_;have:=((h5 0 (by omega)).2.1 rfl).2;rw[a6,this];rfl,rfl⟩
 refine aq ?_;conv=>whnf
 refine ptr ?_;conv=>whnf
 refine dJ b1 ?_;conv=>whnf
 apply aT<;>intro h5;all_goals conv=>whnf
 ·exact⟨by rw[dD];rintro⟨_,_,h6⟩;exact h5 ((h6 1 (by omega)).2.2.1 rfl).1,rfl⟩
 apply aT<;>intro h6;all_goals conv=>whnf
 ·exact⟨by rw[dD];rintro⟨_,_,h7⟩;refine h6 ?_;have:=((h7 1 (by omega)).2.2.1 rfl).2;rw[b6,this];rfl,rfl⟩
 obtain⟨b1',adC,vs,hq,c1,c2,c3⟩:=b5.get (i:=0) (by omega);subst c2;refine aq ?_;conv=>whnf
 refine aG hq ?_;conv=>whnf
 refine ld (aE c1 (i:=0) rfl) ?_;conv=>whnf
 apply aT<;>intro h7;all_goals conv=>whnf
 ·exact⟨by rw[dD];rintro⟨_,_,h8⟩;refine h7 ?_;have:=((h8 1 (by omega)).2.2.1 rfl).2;simp[this],rfl⟩
 have IA:cs[1].fields=[1]:=KJ (by omega) h7;have HC:cs[0].fields=[]:=List.eq_nil_of_length_eq_zero (by omega);refine fh [0,48,49,50] [] (λi:Nat=>i<=cs.length/\∀ j (hj:j < cs.length),j < i->(1 < j->0<=cs[j].bU/\cs[j].bU < j)/\cs[j].fields.length<=2/\iS cs.length cs[j].fields) (λi=>cs.length-i)
  (λi=>([.v (.slice (some ⟨b,off,none⟩) cs.length c),.v (.slice (some ⟨b,off,none⟩) cs.length c),.v (.int .i64 cs.length),.v (.int .i64 i)],[],h)) 0 ⟨by omega,λj hj h=>by omega⟩ rfl ?_
 rintro i ⟨hi,hd⟩;conv=>whnf
 apply ax<;>intro gE;all_goals conv=>whnf
 ·obtain⟨b2,FY,q,k,d,hp,e1,e2,e3,e4,e5,e6⟩:=hr.at (i:=i) (by omega);simp only[v_,Addr.mk.injEq,and_true]at hp;obtain⟨rfl,rfl⟩:=hp;refine aq ?_;conv=>whnf
  refine ptr ?_;conv=>whnf
  refine dJ (by simpa using e1) ?_;conv=>whnf
  have bad:¬((1 < i->0<=cs[i].bU/\cs[i].bU < i)/\cs[i].fields.length<=2/\iS cs.length cs[i].fields)->.bool false=tf (cI cs):=by
   intro h8;rw[dD];rintro⟨_,_,iu⟩;have h11:=iu i (by omega);exact h8 ⟨h11.2.2.2.1,h11.2.2.2.2,h11.1⟩
  by_cases hS:1 < i->0<=cs[i].bU/\cs[i].bU < i
  ·repeat' ((first
    | apply ax<;>intro _)<;>conv=>whnf)
   all_goals first
    | (exfalso;omega)
    | exact⟨bad (by rintro⟨_,h9,_⟩;omega),rfl⟩
    | skip
   all_goals
    refine fh [0,48,49,50,73,74,75] [] (λm:Nat=>m<=k/\∀ l (hl:l < cs[i].fields.length),l < m->dg cs.length cs[i].fields[l]) (λm=>k-m)
     (λm=>([.v (.slice (some ⟨b,off,none⟩) cs.length c),.v (.slice (some ⟨b,off,none⟩) cs.length c),.v (.int .i64 cs.length),.v (.int .i64 i),.v (.slice q k d),.v (.int .i64 k),.v (.int .i64 m)],[],h)) 0 ⟨by omega,λl hl h=>by omega⟩ rfl ?_
    rintro m ⟨hm,hg⟩;conv=>whnf
    apply ax<;>intro h8;all_goals conv=>whnf
    ·have Uf:m < cs[i].fields.length:=by omega
     have e7:=e5.get Uf;obtain⟨b2,FY,vs,wA,f1,f2,f3⟩:=e7;subst f2;refine aq ?_;conv=>whnf
     refine aG wA ?_;conv=>whnf
     refine ld (by simpa using aE f1 (i:=0) rfl) ?_;conv=>whnf
     refine aj (ry _ _ _ (by omega) f3) ?_;conv=>whnf
     apply aT<;>intro h9;all_goals conv=>whnf
     ·exact⟨bad (by rintro⟨_,_,iu⟩;exact h9 (iu cs[i].fields[m] (x_ _))),rfl⟩
     ·refine ah ?_;conv=>whnf
      refine dm (m+1) ⟨by omega,λl hl hlm=>?_⟩ (by omega) rfl;rcases Nat.lt_succ_iff_lt_or_eq.1 hlm with iu|rfl
      ·exact hg l hl iu
      ·exact h9
    ·refine ah ?_;conv=>whnf
     refine dm (i+1) ⟨by omega,λj hj jj=>?_⟩ (by omega) rfl;rcases Nat.lt_succ_iff_lt_or_eq.1 jj with iu|rfl
     ·exact hd j hj iu
     ·refine⟨hS,by omega,λt ht=>?_⟩;obtain⟨l,hl,rfl⟩:=List.mem_iff_getElem.1 ht;exact hg l hl (by omega)
  ·repeat' ((first
    | apply ax<;>intro _)<;>conv=>whnf)
   all_goals first
    | exact⟨bad (λh9=>hS h9.1),rfl⟩
    | (exfalso;omega)
 ·exact⟨by
   rw[fk];refine⟨by omega,by omega,λj hj=>⟨(hd j hj (by omega)).2.2,?_,?_,(hd j hj (by omega)).1,(hd j hj (by omega)).2.1⟩⟩
   ·rintro rfl;exact⟨h3,HC⟩
   ·rintro rfl;exact⟨h5,IA⟩,rfl⟩
def II (cs:List eD) (b:Int):Nat->Int->Bool
 | 0,_=>false
 | k+1,a=>decide (0<=a)&&(decide (a=b)||II cs b k (bG cs a))
def up (cs:List eD) (a b:Int):Bool:=II cs b (a.toNat+1) a
theorem cI.bU {cs:List eD} (ok:cI cs) {a:Int} (h0:0<=a) (h1:a < cs.length) : -1<=bG cs a/\bG cs a < a:=by
 have hi:a.toNat < cs.length:=by omega
 have he:=mW hi;have hsa:bG cs a=bG cs (a.toNat:Int):=by rw[Int.toNat_of_nonneg h0]
 have hc:=ok.2.2 a.toNat hi;rw[hsa,he];rcases Nat.lt_trichotomy a.toNat 1 with h|h|h
 ·have:=(hc.2.1 (by omega)).1;omega
 ·have:=(hc.2.2.1 h).1;omega
 ·have:=hc.2.2.2.1 h;omega
theorem DY {cs:List eD} (ok:cI cs) (b:Int):∀(k:Nat) (a:Int),a < cs.length->a.toNat < k->II cs b k a=II cs b (k+1) a
 | 0,a,_,h=>by omega
 | k+1,a,hl,h=>by
  rw[II,II];by_cases h0:0<=a
  ·have hs:=ok.bU h0 hl;by_cases h1:0<=bG cs a
   ·rw[DY ok b k (bG cs a) (by omega) (by omega)]
   ·have hn:∀ k,II cs b k (bG cs a)=false:=by
     intro k;cases k with
     | zero=>rfl
     | succ k=>rw[II];simp[h1]
    rw[hn,hn]
  ·simp[h0]
theorem HD {cs:List eD} (ok:cI cs) (b:Int) (a:Int) (hl:a < cs.length):∀(j:Nat),II cs b (a.toNat+1+j) a=up cs a b
 | 0=>rfl
 | j+1=>by
  rw[<-HD ok b a hl j];exact(DY ok b (a.toNat+1+j) a hl (by omega)).symm
theorem rz {cs:List eD} {a b:Int} (h:a < 0):up cs a b=false:=by
 unfold up;rw[II];simp[show ¬0<=a by omega]
theorem iT {cs:List eD} (ok:cI cs) {a b:Int} (h0:0<=a) (hl:a < cs.length):up cs a b=(decide (a=b)||up cs (bG cs a) b):=by
 have hs:=ok.bU h0 hl;conv=>lhs;unfold up
 rw[II];simp only[h0,decide_true,Bool.true_and];by_cases h1:0<=bG cs a
 ·have:=HD ok b (bG cs a) (by omega) (a.toNat-(bG cs a).toNat-1);rw[show(bG cs a).toNat+1+(a.toNat-(bG cs a).toNat-1)=a.toNat by omega]at this;rw[this]
 ·rw[rz (by omega)];have:II cs b a.toNat (bG cs a)=false:=by
   cases a.toNat with
   | zero=>rfl
   | succ k=>rw[II];simp[h1]
  rw[this]
theorem FZ {cs:List eD} (ok:cI cs):∀(k:Nat) {a b:Int},a.toNat < k->a < cs.length->a < b->up cs a b=false
 | 0,a,b,h,_,_=>by omega
 | k+1,a,b,h,hl,hb=>by
  by_cases h0:0<=a
  ·have hs:=ok.bU h0 hl;rw[iT ok h0 hl];by_cases h1:0<=bG cs a
   ·rw[FZ ok k (by omega) (by omega) (by omega)];simp[show a≠b by omega]
   ·rw[rz (by omega)];simp[show a≠b by omega]
  ·exact rz (by omega)
theorem fP.n {h:Heap} {p:Option Addr} {n c:Nat} {cs:List eD} (hr:fP h (.slice p n c) cs):n=cs.length:=by obtain⟨_,_,he,_⟩:=hr.len;injection he
theorem sD (p:Option Addr) (n c:Nat) (cs:List eD) (a b:Int) (h:Heap) (hr:fP h (.slice p n c) cs) (ok:cI cs) (h0 : -1<=a) (hl:a < cs.length) :
  Pure prog 121 [.slice p n c,.int .i64 a,.int .i64 b] h (.bool (up cs a b)):=by
 have hn:=hr.n;refine iC au func121 RU Qk rfl ?_;conv=>whnf
 refine fh [0,2,7] [] (λx:Int=>-1<=x/\x < cs.length/\up cs x b=up cs a b) (λx=>(x+1).toNat)
  (λx=>([.v (.slice p n c),.v (.int .i64 b),.v (.int .i64 x)],[],h)) a ⟨h0,hl,rfl⟩ rfl ?_
 rintro x ⟨x0,x1,x2⟩;conv=>whnf
 apply ax<;>intro h1;all_goals conv=>whnf
 ·apply ax<;>intro h2;all_goals conv=>whnf
  ·exact⟨by rw[<-x2,iT ok h1 x1];simp[h2],rfl⟩
  ·have hi:x.toNat < cs.length:=by omega
   have e:=hr.at hi;obtain⟨bb,off,q,k,d,hp,_,e2,_,_,_,_⟩:=e;have hs:=ok.bU h1 x1;have DZ:bG cs x=cs[x.toNat].bU:=by simp[bG,hi]
   refine aq ?_;conv=>whnf
   refine aG hp ?_;conv=>whnf
   refine ld e2 ?_;conv=>whnf
   refine dm (cs[x.toNat].bU) ⟨by omega,by omega,?_⟩ (by omega) rfl;rw[<-x2,iT ok h1 x1,DZ];simp[h2]
 ·exact⟨by rw[<-x2,rz (by omega)],rfl⟩
theorem tW (p:Option Addr) (n c:Nat) (cs:List eD) (a b:Int) (h:Heap) (hr:fP h (.slice p n c) cs) (ok:cI cs) (h0 : -1<=a) (hl:a < cs.length) (hb:0<=b) :
  Pure prog 126 [.slice p n c,.int .i64 a,.int .i64 b] h (.bool (up cs a b)):=by
 have hn:=hr.n;refine iC au func126 V1 V2 rfl ?_;conv=>whnf
 refine fh [0,1,2] [] (λx:Int=>-1<=x/\x < cs.length/\up cs x b=up cs a b) (λx=>(x+1).toNat)
  (λx=>([.v (.slice p n c),.v (.int .i64 x),.v (.int .i64 b)],[],h)) a ⟨h0,hl,rfl⟩ rfl ?_
 rintro x ⟨x0,x1,x2⟩;conv=>whnf
 apply ax<;>intro h1;all_goals conv=>whnf
 ·have hi:x.toNat < cs.length:=by omega
  have e:=hr.at hi;obtain⟨bb,off,q,k,d,hp,_,e2,_,_,_,_⟩:=e;have hs:=ok.bU (a:=x) (by omega) x1;have DZ:bG cs x=cs[x.toNat].bU:=by simp[bG,hi]
  refine aq ?_;conv=>whnf
  refine aG hp ?_;conv=>whnf
  refine ld e2 ?_;conv=>whnf
  refine dm (cs[x.toNat].bU) ⟨by omega,by omega,?_⟩ (by omega) rfl;rw[<-x2,iT ok (a:=x) (by omega) x1,DZ];simp[show x≠b by omega]
 ·refine⟨?_,rfl⟩;rw[<-x2];by_cases h2:x=b
  ·subst h2;rw[iT ok (by omega) x1];simp
  ·rw[FZ ok (x.toNat+1) (by omega) x1 (by omega)];simp[h2]
def cr (sz:Nat) (h:Heap) (v:Value) (xs:List (List Value)) (B:List Nat):Prop :=
 (∀ x∈xs,x.length=sz)/\((v=.slice none 0 0/\xs=[]/\B=[])\/∃ b c rest t,v=.slice (some ⟨b,0,none⟩) xs.length c/\xs.length<=c/\h b=some (.cells (xs.flatten++rest).toArray t (0,0))/\(xs.flatten++rest).length=c*sz/\B=[b])
theorem bW {sz:Nat}:∀ {xs:List (List Value)},(∀ x∈xs,x.length=sz)->xs.flatten.length=xs.length*sz
 | [],_=>by simp
 | x::xs,h=>by
  simp only[List.flatten_cons,U_,List.length_cons];rw[bW (λy hy=>h y (List.mem_cons_of_mem _ hy)),h x List.mem_cons_self,Nat.succ_mul];omega
theorem iK (vs:List Value):∀(a r:List Value),vs.length<=r.length->eS (a++r) a.length vs=a++vs++r.drop vs.length:=by
 induction vs with
 | nil=>intro a r _;simp[eS]
 | cons v vs ih =>
  intro a r hr;cases r with
  | nil=>simp at hr
  | cons y r =>
   simp only[eS];have:Nt (a++y::r) a.length v=(a++[v])++r:=by
    rw[wj];simp
   rw[this];have h2:=ih (a++[v]) r (by simpa using hr);simp only[U_,List.length_cons,List.length_nil,Nat.zero_add]at h2;rw[h2];simp
theorem bO {h:Heap} {b:Nat} {cs:List Value} {t:TypeId} {fz:Nat × Nat} (hb:h b=some (.cells cs.toArray t fz)):∀(k off:Nat),off+k<=cs.length->fj h b off k=some ((cs.drop off).take k)
 | 0,off,_=>by simp[fj]
 | k+1,off,hl=>by
  have gE:off < cs.length:=by omega
  have e1:rd h b off=some cs[off]:=by simp[rd,hb,gE]
  simp only[fj,e1,bO hb k (off+1) (by omega)];rw[List.drop_eq_getElem_cons gE,List.take_succ_cons]
theorem Heap.aP {h0 h:Heap} {b:Nat} {o:Obj} (hl:h0.le h) (hb:h0 b=none):h0.le (h.set b o):=by
 intro c x hx;have cH:c≠b:=by rintro rfl;rw[hb]at hx;cases hx
 simp only[Heap.set,cH,if_false];exact hl c x hx
theorem dA {bytes sz:Nat} {zero:List Value} {el:TypeId} {h0 h:Heap} {p:Option Addr} {n cap:Nat} {xs ys:List (List Value)} {B:List Nat} {m:Nat} {vs:List Value} {K:Value->Heap->Prop}
  (ho:cr sz h (.slice p n cap) xs B) (hB:∀ b∈B,h0 b=none) (hle:h0.le h) (jB:vs=ys.flatten) (hm:m=ys.length) (JT:∀ y∈ys,y.length=sz) (hc:eu vs=true) (hz:zero.length=sz)
  (gL:(xs.length+ys.length)*bytes<=2 ^ 44) (fO:xs.length+ys.length<=2 ^ 44)
  (hk:∀ v' h' B',h0.le h'->cr sz h' v' (xs++ys) B'->(∀ b∈B',h0 b=none)->(∀ b,b ∉ B->h b≠none->h' b=h b)->(∀ b∈B',b∈B\/h b=none)->K v' h'):App bytes sz zero el h p n cap m vs K:=by
 subst jB hm;obtain⟨hx,ho⟩:=ho;have KK:∀ x∈xs++ys,x.length=sz:=by
  intro x hm;rcases u_.1 hm with hm|hm
  ·exact hx x hm
  ·exact JT x hm
 have hly:=bW JT;have HE:=bW hx;rw[pM];unfold BP;rcases ho with ⟨he,rfl,rfl⟩|⟨b,c,rest,t,he,gF,hb,hlen,rfl⟩
 ·simp only[Z_]at he;obtain⟨rfl,rfl,rfl⟩:=he;refine⟨λh1=>⟨hc,?_⟩,λh1=>⟨by simpa using gL,by simpa using fO,[],⟨rfl,rfl⟩,λb c hb gF=>?_⟩⟩
  ·have De:ys=[]:=List.eq_nil_of_length_eq_zero (by omega);subst De;exact⟨rfl,hk _ _ [] hle ⟨KK,.inl ⟨rfl,rfl,rfl⟩⟩ (by simp) (λ_ _ _=>rfl) (by simp)⟩
  ·refine hk _ _ [b] (Heap.aP hle ?_) ⟨KK,.inr ⟨b,c,(List.replicate (c-(0+ys.length)) zero).flatten,el,by simp,by simpa using gF,by simp[Heap.set],?_,rfl⟩⟩ ?_ ?_ ?_
   ·cases hh:h0 b with
    | none=>rfl
    | some x=>rw[hle b x hh]at hb;cases hb
   ·rw[U_,uM,hz,List.nil_append,hly,Nat.zero_add,<-Nat.add_mul];congr 1
    omega
   ·intro b' bA;simp only[V_]at bA;subst bA;cases hh:h0 b' with
    | none=>rfl
    | some x=>rw[hle b' x hh]at hb;cases hb
   ·intro b' _ hn;have:b'≠b:=by rintro rfl;exact hn hb
    simp[Heap.set,this]
   ·intro b' bA;simp only[V_]at bA;subst bA;exact .inr hb
 ·simp only[Z_]at he;obtain⟨rfl,rfl,rfl⟩:=he;have qB:∀ b,h b=none->h0 b=none:=by
   intro b hb;cases hh:h0 b with
   | none=>rfl
   | some x=>rw[hle b x hh]at hb;cases hb
  have hsz:(xs.flatten++rest).length=xs.length*sz+rest.length:=by rw[U_,HE]
  refine⟨λh1=>⟨hc,(xs.flatten++rest).toArray,t,hb,?_,?_⟩,λh1=>⟨gL,fO,xs.flatten,?_,λb' c' bA Qs=>?_⟩⟩
  ·have:=Nat.mul_le_mul_right sz h1;rw[Nat.add_mul]at this;simp only[List.size_toArray];omega
  ·have hw:eS (xs.flatten++rest) (0+xs.length*sz) ys.flatten=(xs++ys).flatten++rest.drop ys.flatten.length:=by
    rw[Nat.zero_add,<-HE,iK]
    ·simp
    ·have:=Nat.mul_le_mul_right sz h1;rw[Nat.add_mul]at this;omega
   have tX:ys.flatten.length<=rest.length:=by
    have:=Nat.mul_le_mul_right sz h1;rw[Nat.add_mul]at this;omega
   refine hk _ _ [b] (Heap.aP hle (hB b (by simp))) ⟨KK,.inr ⟨b,cap,rest.drop ys.flatten.length,t,by simp,by simpa using h1,?_,?_,rfl⟩⟩ ?_ ?_ ?_
   ·simp only[Heap.set,if_true];rw[<-hw]
   ·rw[<-hw,xm];exact hlen
   ·intro b' bA;exact hB b' bA
   ·intro b' hn _;have:b'≠b:=by rintro rfl;exact hn (by simp)
    simp[Heap.set,this]
   ·intro b' bA;exact .inl bA
  ·show fj h b 0 (xs.length*sz)=some xs.flatten;rw[bO hb _ _ (by omega),<-HE];simp
  ·refine hk _ _ [b'] (Heap.aP hle (qB b' bA)) ⟨KK,.inr ⟨b',c',(List.replicate (c'-(xs.length+ys.length)) zero).flatten,el,by simp,by simpa using Qs,by simp[Heap.set],?_,rfl⟩⟩ ?_ ?_ ?_
   ·rw[U_,uM,hz,bW KK,U_,<-Nat.add_mul];congr 1
    omega
   ·intro b'' KL;simp only[V_]at KL;subst KL;exact qB _ bA
   ·intro b'' _ hn;have:b''≠b':=by rintro rfl;exact hn bA
    simp[Heap.set,this]
   ·intro b'' KL;simp only[V_]at KL;subst KL;exact .inr bA
theorem KM {h:Heap} {b:Nat}:∀(vs:List Value) (off:Nat),(∀ i v,vs[i]? = some v->rd h b (off+i)=some v)->fj h b off vs.length=some vs
 | [],off,_=>rfl
 | v::vs,off,hx=>by
  have e1:=hx 0 v rfl;have e2:=KM vs (off+1) (λi w hw=>by have:=hx (i+1) w (by simpa using hw);rw[show off+1+i=off+(i+1)by omega];exact this);simp only[List.length_cons,fj];rw[Nat.add_zero]at e1;rw[e1,e2]
def bN (x:Int):List Value:=[.int .i64 x]
theorem ek:∀ l:List Int,(l.map bN).flatten=l.map (.int .i64)
 | []=>rfl
 | x::l=>by simp[bN,ek l]
theorem dS:∀ l:List Int,eu (l.map (.int .i64))=true
 | []=>rfl
 | x::l=>by simp[eu,mP,dS l]
theorem rA {h:Heap} {p:Option Addr} {n c:Nat} {l:List Int} {K:List Value->Prop} (hr:dy h (.slice p n c) l) (hk:K (l.map (.int .i64))):Ua h p (n*1) K:=by
 obtain⟨_,p',c',he,_,h3⟩:=hr;simp only[Z_]at he;obtain⟨rfl,rfl,rfl⟩:=he;rw[uH];unfold Fz;rcases h3 with rfl|⟨b,off,rfl,hx⟩
 ·exact .inl ⟨.inr (by simp),hk⟩
 ·refine .inr ⟨b,off,_,rfl,?_,hk⟩;have:=KM (h:=h) (b:=b) (l.map (.int .i64)) off (λi v hv=>by
   simp only[List.getElem?_map,Option.map_eq_some_iff]at hv;obtain⟨x,Hs,rfl⟩:=hv;obtain⟨vs,h4,h5,_⟩:=hx i x Hs;subst h5;have:=aE h4 (i:=0) rfl;simpa using this)
  simpa using this
abbrev dR (h:Heap) (v:Value) (l:List Int) (B:List Nat):Prop:=cr 1 h v (l.map bN) B
theorem cr.form {sz:Nat} {h:Heap} {v:Value} {xs:List (List Value)} {B:List Nat} (ho:cr sz h v xs B):∃ p c,v=.slice p xs.length c/\xs.length<=c:=by
 obtain⟨_,⟨rfl,rfl,_⟩|⟨b,c,rest,t,rfl,h1,_⟩⟩:=ho
 ·exact⟨none,0,rfl,Nat.le_refl _⟩
 ·exact⟨_,c,rfl,h1⟩
def jy (cs:List eD) (c:Int):List Int:=match cs[c.toNat]? with
 | some x=>x.fields
 | none=>[]
def D0 (cs:List eD):Nat->Int->List Int
 | 0,_=>[]
 | k+1,c=>if c<=0 then []else D0 cs k (bG cs c)++jy cs c
def dw (cs:List eD) (c:Int):List Int:=D0 cs c.toNat c
theorem D1 {cs:List eD} {c:Int} (h:c<=0) (k:Nat):D0 cs k c=[]:=by
 cases k with
 | zero=>rfl
 | succ k=>rw[D0,if_pos h]
theorem fD {cs:List eD} {c:Int} (h:c<=0):dw cs c=[]:=D1 h _
theorem yP {cs:List eD} (ok:cI cs):∀(k:Nat) (c:Int),c < cs.length->c.toNat<=k->D0 cs k c=dw cs c
 | 0,c,_,h=>by rw[fD (by omega)];rfl
 | k+1,c,hl,h=>by
  by_cases h0:c<=0
  ·rw[D1 h0,fD h0]
  ·have hs:=ok.bU (a:=c) (by omega) hl;unfold dw;obtain⟨j,hj⟩:∃ j,c.toNat=j+1:=⟨c.toNat-1,by omega⟩
   rw[hj,D0,D0,if_neg h0,if_neg h0,yP ok k _ (by omega) (by omega),yP ok j _ (by omega) (by omega)]
theorem mI {cs:List eD} (ok:cI cs) {c:Int} (h0:0 < c) (hl:c < cs.length):dw cs c=dw cs (bG cs c)++jy cs c:=by
 have hs:=ok.bU (a:=c) (by omega) hl;conv=>lhs;unfold dw
 obtain⟨j,hj⟩:∃ j,c.toNat=j+1:=⟨c.toNat-1,by omega⟩
 rw[hj,D0,if_neg (by omega),yP ok j _ (by omega) (by omega)]
theorem uV {cs:List eD} (ok:cI cs):∀(k:Nat) (c:Int),c < cs.length->c.toNat<=k->(dw cs c).length<=2*k
 | 0,c,_,h=>by rw[fD (by omega)];simp
 | k+1,c,hl,h=>by
  by_cases h0:c<=0
  ·rw[fD h0];simp
  ·have hs:=ok.bU (a:=c) (by omega) hl;have ih:=uV ok k (bG cs c) (by omega) (by omega);rw[mI ok (by omega) hl,U_];have hi:c.toNat < cs.length:=by omega
   have hf:=(ok.2.2 c.toNat hi).2.2.2.2;have:(jy cs c).length<=2:=by simp only[jy,hi,w_];exact hf
   omega
theorem kU:∀(k:Nat) (p:Option Addr) (n c:Nat) (cs:List eD) (x:Int) (h:Heap),fP h (.slice p n c) cs->cI cs->0<=x->x < cs.length->x.toNat < k ->
  bI prog 146 [.slice p n c,.int .i64 x] h λv h'=>h.le h'/\∃ B,dR h' v (dw cs x) B/\∀ b∈B,h b=none
 | 0,_,_,_,_,_,_,_,_,_,_,hk=>by omega
 | k+1,p,n,c,cs,x,h,hr,ok,h0,hl,hk=>by
  have hn:=hr.n;refine bZ au func146 WB WC rfl ?_;conv=>whnf
  apply ax<;>intro h1;all_goals conv=>whnf
  ·exact⟨z_ h,[],⟨by rw[fD (by omega)];simp,.inl ⟨rfl,by rw[fD (by omega)];rfl,rfl⟩⟩,by simp⟩
  ·have hi:x.toNat < cs.length:=by omega
   have e:=hr.at hi;obtain⟨bb,off,q,m,d,hp,_,e2,e3,_,e5,e6⟩:=e;have hs:=ok.bU h0 hl;have DZ:bG cs x=cs[x.toNat].bU:=by simp[bG,hi]
   refine aq ?_;conv=>whnf
   refine aG hp ?_;conv=>whnf
   refine aq ?_;conv=>whnf
   refine aG hp ?_;conv=>whnf
   refine ld e3 ?_;conv=>whnf
   refine ld e2 ?_;conv=>whnf
   have ih:=kU k p n c cs (bG cs x) h hr ok (by
    have:=ok.2.1;have hc:=ok.2.2 x.toNat hi;rw[DZ];rcases Nat.lt_trichotomy x.toNat 1 with g|g|g
    ·omega
    ·rw[(hc.2.2.1 g).1];omega
    ·exact(hc.2.2.2.1 g).1) (by omega) (by omega)
   rw[DZ]at ih;refine cX ih ?_;rintro v h' ⟨hle,B,ho,hB⟩;refine⟨hle,?_⟩;obtain⟨p',c',rfl,pW⟩:=ho.form;conv=>whnf
   have hlen:=uV ok x.toNat (bG cs x) (by omega) (by omega);have AN:cs[x.toNat].fields.length<=2:=(ok.2.2 x.toNat hi).2.2.2.2;rw[DZ]at hlen;have Ny:=ok.2.1;refine rA (e5.le hle) ?_;conv=>whnf
   refine dA (ys:=cs[x.toNat].fields.map bN) ho hB hle (ek _).symm (by simp[e6]) (by simp[bN]) (dS _) rfl (by simp;omega) (by simp;omega) ?_;intro v' Ao B' g1 g2 g3 g4 g5;conv=>whnf
   refine⟨g1,B',?_,g3⟩;rw[mI ok (by omega) hl,DZ];unfold dR;rw[List.map_append];simpa [jy,hi]using g2
theorem jJ:∀(k:Nat) (p:Option Addr) (n c:Nat) (cs:List eD) (x:Int) (h:Heap),fP h (.slice p n c) cs->cI cs->0<=x->x < cs.length->x.toNat < k ->
  bI prog 80 [.slice p n c,.int .i64 x] h λv h'=>h.le h'/\∃ B,dR h' v (dw cs x) B/\∀ b∈B,h b=none
 | 0,_,_,_,_,_,_,_,_,_,_,hk=>by omega
 | k+1,p,n,c,cs,x,h,hr,ok,h0,hl,hk=>by
  have hn:=hr.n;refine bZ au func80 F80 abU rfl ?_;conv=>whnf
  apply ax<;>intro h1;all_goals conv=>whnf
  ·refine new λb hb=>?_;conv=>whnf
   refine⟨Heap.Cj _ hb,[b],⟨by rw[fD (by omega)];simp,.inr ⟨b,0,[],3,by rw[fD (by omega)];rfl,by rw[fD (by omega)];simp,by rw[fD (by omega)];simp[Heap.set,uI],by rw[fD (by omega)];simp,rfl⟩⟩,by simpa using hb⟩
  ·have hi:x.toNat < cs.length:=by omega
   have e:=hr.at hi;obtain⟨bb,off,q,m,d,hp,_,e2,e3,_,e5,e6⟩:=e;have hs:=ok.bU h0 hl;have DZ:bG cs x=cs[x.toNat].bU:=by simp[bG,hi]
   refine aq ?_;conv=>whnf
   refine aG hp ?_;conv=>whnf
   refine aq ?_;conv=>whnf
   refine aG hp ?_;conv=>whnf
   refine ld e3 ?_;conv=>whnf
   refine ld e2 ?_;conv=>whnf
   have ih:=jJ k p n c cs (bG cs x) h hr ok (by
    have:=ok.2.1;have hc:=ok.2.2 x.toNat hi;rw[DZ];rcases Nat.lt_trichotomy x.toNat 1 with g|g|g
    ·omega
    ·rw[(hc.2.2.1 g).1];omega
    ·exact(hc.2.2.2.1 g).1) (by omega) (by omega)
   rw[DZ]at ih;refine cX ih ?_;rintro v h' ⟨hle,B,ho,hB⟩;refine⟨hle,?_⟩;obtain⟨p',c',rfl,pW⟩:=ho.form;conv=>whnf
   have hlen:=uV ok x.toNat (bG cs x) (by omega) (by omega);have AN:cs[x.toNat].fields.length<=2:=(ok.2.2 x.toNat hi).2.2.2.2;rw[DZ]at hlen;have Ny:=ok.2.1;refine rA (e5.le hle) ?_;conv=>whnf
   refine dA (ys:=cs[x.toNat].fields.map bN) ho hB hle (ek _).symm (by simp[e6]) (by simp[bN]) (dS _) rfl (by simp;omega) (by simp;omega) ?_;intro v' Ao B' g1 g2 g3 g4 g5;conv=>whnf
   refine⟨g1,B',?_,g3⟩;rw[mI ok (by omega) hl,DZ];unfold dR;rw[List.map_append];simpa [jy,hi]using g2
theorem sE (p:Option Addr) (n c:Nat) (t:Int) (h:Heap) (hn:n<=140737488351232):Pure prog 175 [.slice p n c,.int .i64 t] h (tf (dg n t)):=by
 refine iC au func175 Xl Xm rfl ?_;conv=>whnf
 apply ax<;>intro h1;all_goals conv=>whnf
 ·exact⟨by rw[fk];unfold dg;omega,rfl⟩
 apply ax<;>intro h2;all_goals conv=>whnf
 ·exact⟨by rw[fk];unfold dg;omega,rfl⟩
 apply ax<;>intro h3;all_goals conv=>whnf
 ·exact⟨by rw[fk];unfold dg;omega,rfl⟩
 refine ah ?_;conv=>whnf
 refine ah ?_;conv=>whnf
 refine aj (dP _ _ _ _) ?_;conv=>whnf
 exact⟨(Aq (by unfold dg;omega)).symm,rfl⟩
theorem IJ (p:Option Addr) (n c:Nat) (cs:List eD) (i:Nat) (h:Heap) (hr:fP h (.slice p n c) cs) (hi:i < cs.length) :
  Pure prog 141 [.slice p n c,.int .i64 i] h (tf (yO cs.length i cs[i])):=by
 have hl:n<=140737488351232:=by obtain⟨_,_,he,_,h2⟩:=hr.len;injection he with _ he _;omega
 obtain rfl:=hr.n;have e:=hr.at hi;obtain⟨bb,off,q,k,d,hp,e1,e2,e3,e4,e5,e6⟩:=e;have HF:=e5.1;refine iC au func141 Wr Ws rfl ?_;conv=>whnf
 refine aq ?_;conv=>whnf
 refine aG hp ?_;conv=>whnf
 refine dJ e1 ?_;conv=>whnf
 refine fh [0,1,5,6] [5] (λm:Nat=>m<=k/\∀ l (hl:l < cs[i].fields.length),l < m->dg cs.length cs[i].fields[l]) (λm=>k-m)
  (λm=>([.v (.slice p cs.length c),.v (.int .i64 i),.l 5 0,.v (.int .i64 m)],[some [.int .i64 cs[i].bU,.slice q k d]],h)) 0 ⟨by omega,λl hl h=>by omega⟩ rfl ?_
 rintro m ⟨hm,hg⟩;conv=>whnf
 apply ax<;>intro h1;all_goals conv=>whnf
 ·have Uf:m < cs[i].fields.length:=by omega
  have f:=e5.get Uf;obtain⟨b2,FY,vs,hq,f1,f2,f3⟩:=f;subst f2;refine aq ?_;conv=>whnf
  refine aG hq ?_;conv=>whnf
  refine ld (aE f1 (i:=0) rfl) ?_;conv=>whnf
  refine aj (sE _ _ _ _ _ hl) ?_;conv=>whnf
  apply aT<;>intro h2;all_goals conv=>whnf
  ·exact⟨by rw[dD];intro h3;exact h2 (h3.1 _ (x_ _)),rfl⟩
  ·refine ah ?_;conv=>whnf
   refine dm (m+1) ⟨by omega,λl hl hlm=>?_⟩ (by omega) rfl;rcases Nat.lt_succ_iff_lt_or_eq.1 hlm with iu|rfl
   ·exact hg l hl iu
   ·exact h2
 ·have hF:iS cs.length cs[i].fields:=by
   intro t ht;obtain⟨l,hl,rfl⟩:=List.mem_iff_getElem.1 ht;exact hg l hl (by omega)
  apply ax<;>intro h2;all_goals conv=>whnf
  ·apply ax<;>intro h3;all_goals conv=>whnf
   ·refine⟨(Aq ⟨λh4=>?_,λh4=>?_⟩).symm,rfl⟩
    ·have:=(h4.2.1 (by omega)).2;simp[e6,this]
    ·have HC:cs[i].fields=[]:=List.eq_nil_of_length_eq_zero (by omega);exact⟨hF,λ_=>⟨h3,HC⟩,λ_=>by omega,λ_=>by omega,by simp[HC]⟩
   ·exact⟨by rw[dD];intro h4;exact h3 (h4.2.1 (by omega)).1,rfl⟩
  apply ax<;>intro h3;all_goals conv=>whnf
  ·apply ax<;>intro h4;all_goals conv=>whnf
   ·apply ax<;>intro h5;all_goals conv=>whnf
    ·have h0k:0 < cs[i].fields.length:=by omega
     have f:=e5.get h0k;obtain⟨b2,FY,vs,hq,f1,f2,f3⟩:=f;subst f2;refine aq ?_;conv=>whnf
     refine aG hq ?_;conv=>whnf
     refine ld (aE f1 (i:=0) rfl) ?_;conv=>whnf
     refine⟨(Aq ⟨λh6=>?_,λh6=>?_⟩).symm,rfl⟩
     ·have:=(h6.2.2.1 (by omega)).2;simp[this]
     ·have IA:cs[i].fields=[1]:=KJ (by omega) h6;exact⟨hF,λ_=>by omega,λ_=>⟨h4,IA⟩,λ_=>by omega,by simp[IA]⟩
    ·exact⟨by rw[dD];intro h6;refine h5 ?_;have:=(h6.2.2.1 (by omega)).2;simp[e6,this],rfl⟩
   ·exact⟨by rw[dD];intro h6;exact h4 (h6.2.2.1 (by omega)).1,rfl⟩
  ·refine ah ?_;conv=>whnf
   refine aj (dP _ _ _ _) ?_;conv=>whnf
   apply ax<;>intro h4;all_goals conv=>whnf
   ·refine⟨(Aq ⟨λh5=>?_,λh5=>?_⟩).symm,rfl⟩
    ·have:=h5.2.2.2.2;omega
    ·exact⟨hF,λ_=>by omega,λ_=>by omega,λ_=>by omega,by omega⟩
   ·exact⟨by rw[dD];intro h5;refine h4 ?_;have:=h5.2.2.2.1 (by omega);omega,rfl⟩
theorem qb (p:Option Addr) (n c:Nat) (cs:List eD) (h:Heap) (hr:fP h (.slice p n c) cs):Pure prog 76 [.slice p n c] h (tf (cI cs)):=by
 have hl:n<=140737488351232:=by obtain⟨_,_,he,_,h2⟩:=hr.len;injection he with _ he _;omega
 obtain rfl:=hr.n;refine iC au func76 F76 abQ rfl ?_;conv=>whnf
 refine aj (dP _ _ _ _) ?_;conv=>whnf
 apply aT<;>intro h1;all_goals conv=>whnf
 ·exact⟨by rw[dD];rintro⟨h2,h3,_⟩;omega,rfl⟩
 refine fh [0,3] [] (λi:Nat=>i<=cs.length/\∀ j (hj:j < cs.length),j < i->yO cs.length j cs[j]) (λi=>cs.length-i)
  (λi=>([.v (.slice p cs.length c),.v (.int .i64 i)],[],h)) 0 ⟨by omega,λj hj h=>by omega⟩ rfl ?_
 rintro i ⟨hi,hd⟩;conv=>whnf
 apply ax<;>intro h2;all_goals conv=>whnf
 ·have bV:i < cs.length:=by omega
  refine aj (IJ p _ c cs i h hr bV) ?_;conv=>whnf
  apply aT<;>intro h3;all_goals conv=>whnf
  ·exact⟨by rw[dD];rintro⟨_,_,h4⟩;exact h3 (h4 i bV),rfl⟩
  ·refine ah ?_;conv=>whnf
   refine dm (i+1) ⟨by omega,λj hj jj=>?_⟩ (by omega) rfl;rcases Nat.lt_succ_iff_lt_or_eq.1 jj with iu|rfl
   ·exact hd j hj iu
   ·exact h3
 ·exact⟨by rw[fk];exact⟨by omega,by omega,λj hj=>hd j hj (by omega)⟩,rfl⟩
def jk (n t:Int):Prop:=(0<=t/\t<=4)\/(8<=t/\t < 8+n)
theorem KN {n t:Int} (h:¬jk n t):eW n t=.nilIface:=by
 unfold jk at h;simp only[eW];(repeat' split)<;>first|rfl|(exfalso;omega)
theorem IK {n t:Int} (h:jk n t):∃ T x,eW n t=.iface T x:=by
 unfold jk at h;simp only[eW];(repeat' split)<;>first|exact⟨_,_,rfl⟩|(exfalso;omega)
theorem D3 (n t:Int) (h:Heap) (hn:0<=n/\n<=140737488351232) (ht:cY t):∃ v,Pure prog 174 [.int .i64 n,.int .i64 t] h v/\((¬jk n t/\v=.nilIface)\/(jk n t/\∃ T x,v=.iface T x)):=by
 refine⟨_,uT n t h hn ht,?_⟩;by_cases hT:jk n t
 ·exact .inr ⟨hT,IK hT⟩
 ·exact .inl ⟨hT,KN hT⟩
theorem D4 (p:Option Addr) (n c:Nat) (cs:List eD) (t:Int) (h:Heap) (hr:fP h (.slice p n c) cs):Pure prog 176 [.slice p n c,.int .i64 t] h (tf (cI cs/\jk cs.length t)):=by
 have hl:n<=140737488351232:=by obtain⟨_,_,he,_,h2⟩:=hr.len;injection he with _ he _;omega
 obtain rfl:=hr.n;refine iC au func176 Xn Xo rfl ?_;conv=>whnf
 refine aj (qb p _ c cs h hr) ?_;conv=>whnf
 apply ax<;>intro h1;all_goals conv=>whnf
 ·apply ax<;>intro h2;all_goals conv=>whnf
  ·exact⟨by rw[fk];exact⟨h1,by unfold jk;omega⟩,rfl⟩
  apply ax<;>intro h3;all_goals conv=>whnf
  ·exact⟨by rw[fk];exact⟨h1,by unfold jk;omega⟩,rfl⟩
  refine aj (sE p _ c t h hl) ?_;conv=>whnf
  refine⟨?_,rfl⟩;by_cases hT:dg cs.length t
  ·show tf _=_;rw[fk hT,fk];refine⟨h1,?_⟩;unfold dg at hT;unfold jk;omega
  ·show tf _=_;rw[dD hT,dD];rintro⟨_,h4⟩;unfold dg at hT;unfold jk at h4;omega
 ·exact⟨by rw[dD];exact λh2=>h1 h2.1,rfl⟩
def wB (n:Nat) (locals:Int) (s:dY):Prop :=
 (s.told=false/\s.locals=[]/\s.stack=[])\/(s.told=true/\(s.locals.length:Int)=locals/\s.stack.length<=4/\(∀ t∈s.locals,jk n t)/\∀ t∈s.stack,t≠0/\jk n t)
theorem IL (p:Option Addr) (n c:Nat) (locals:Int) (s:dY) (l k:Value) (h:Heap) (hl:n<=140737488351232) (h1:dy h l s.locals) (h2:dy h k s.stack) :
  Pure prog 139 [.slice p n c,.int .i64 locals,.agg #[.bool s.told,l,k]] h (tf (wB n locals s)):=by
 obtain⟨told,sl,ss⟩:=s;simp only at h1 h2;have b1:=h1.1;have b2:=h2.1;have f1:=h1.len;have f2:=h2.len;obtain⟨p1,c1,rfl,_,_⟩:=f1;obtain⟨p2,c2,rfl,_,_⟩:=f2;refine iC au func139 Wn Wo rfl ?_;conv=>whnf
 cases told with
 | false =>
  conv=>whnf
  apply ax<;>intro h3;all_goals conv=>whnf
  ·refine⟨(Aq ⟨λh4=>?_,λh4=>?_⟩).symm,rfl⟩
   ·rcases h4 with ⟨_,_,h5⟩|⟨h5,_⟩
    ·simp only at h5;simp[h5]
    ·cases h5
   ·exact .inl ⟨rfl,List.eq_nil_of_length_eq_zero (by simpa using h3),List.eq_nil_of_length_eq_zero (by simpa using h4)⟩
  ·refine⟨?_,rfl⟩;rw[dD];rintro(⟨_,h5,_⟩|⟨h5,_⟩)
   ·simp only at h5;simp[h5]at h3
   ·cases h5
 | true =>
  conv=>whnf
  apply aT<;>intro h3;all_goals conv=>whnf
  ·refine⟨?_,rfl⟩;rw[dD];rintro(⟨h5,_⟩|⟨_,h5,_⟩)
   ·cases h5
   ·exact h3 h5
  apply ax<;>intro h4;all_goals conv=>whnf
  ·refine⟨?_,rfl⟩;rw[dD];rintro(⟨h5,_⟩|⟨_,_,h5,_⟩)
   ·cases h5
   ·simp only at h5;omega
  refine fh [0,5,36,37,38] [5] (λm:Nat=>m<=sl.length/\∀ i (hi:i < sl.length),i < m->jk n sl[i]) (λm=>sl.length-m)
   (λm=>([.v (.slice p n c),.l 5 0,.v (.slice p1 sl.length c1),.v (.int .i64 sl.length),.v (.int .i64 m)],[some [.bool true,.slice p1 sl.length c1,.slice p2 ss.length c2]],h)) 0 ⟨by omega,λl hl h=>by omega⟩ rfl ?_
  rintro m ⟨hm,hg⟩;conv=>whnf
  apply ax<;>intro h5;all_goals conv=>whnf
  ·have tG:m < sl.length:=by omega
   have g:=h1.get tG;obtain⟨bb,off,vs,hq,g1,g2,g3⟩:=g;subst g2;refine aq ?_;conv=>whnf
   refine aG hq ?_;conv=>whnf
   refine ld (aE g1 (i:=0) rfl) ?_;conv=>whnf
   have hk:=D3 n sl[m] h (by omega) g3;obtain⟨v,hk,⟨hT,rfl⟩|⟨hT,T,x,rfl⟩⟩:=hk
   ·refine aj hk ?_;conv=>whnf
    refine iI (r:=.bool true) rfl rfl (λw=>rfl) (λw=>rfl) ?_;conv=>whnf
    refine⟨?_,rfl⟩;rw[dD];rintro(⟨h6,_⟩|⟨_,_,_,h6,_⟩)
    ·cases h6
    ·exact hT (h6 _ (x_ _))
   ·refine aj hk ?_;conv=>whnf
    refine iI (r:=.bool false) rfl rfl (λw=>rfl) (λw=>rfl) ?_;conv=>whnf
    refine ah ?_;conv=>whnf
    refine dm (m+1) ⟨by omega,λi hi Fk=>?_⟩ (by omega) rfl;rcases Nat.lt_succ_iff_lt_or_eq.1 Fk with iu|rfl
    ·exact hg i hi iu
    ·exact hT
  ·have hA:∀ t∈sl,jk n t:=by
    intro t ht;obtain⟨i,hi,rfl⟩:=List.mem_iff_getElem.1 ht;exact hg i hi (by omega)
   refine fh [0,49,50,51] [] (λm:Nat=>m<=ss.length/\∀ i (hi:i < ss.length),i < m->ss[i]≠0/\jk n ss[i]) (λm=>ss.length-m)
    (λm=>([.v (.slice p n c),.v (.slice p2 ss.length c2),.v (.int .i64 ss.length),.v (.int .i64 m)],[],h)) 0 ⟨by omega,λl hl h=>by omega⟩ rfl ?_
   rintro m ⟨hm,tY⟩;conv=>whnf
   apply ax<;>intro h6;all_goals conv=>whnf
   ·have tG:m < ss.length:=by omega
    have g:=h2.get tG;obtain⟨bb,off,vs,hq,g1,g2,g3⟩:=g;subst g2;refine aq ?_;conv=>whnf
    refine aG hq ?_;conv=>whnf
    refine ld (aE g1 (i:=0) rfl) ?_;conv=>whnf
    apply ax<;>intro h7;all_goals conv=>whnf
    ·refine⟨?_,rfl⟩;rw[dD];rintro(⟨h8,_⟩|⟨_,_,_,_,h8⟩)
     ·cases h8
     ·exact(h8 _ (x_ _)).1 h7
    have hk:=D3 n ss[m] h (by omega) g3;obtain⟨v,hk,⟨hT,rfl⟩|⟨hT,T,x,rfl⟩⟩:=hk
    ·refine aj hk ?_;conv=>whnf
     refine iI (r:=.bool true) rfl rfl (λw=>rfl) (λw=>rfl) ?_;conv=>whnf
     refine⟨?_,rfl⟩;rw[dD];rintro(⟨h8,_⟩|⟨_,_,_,_,h8⟩)
     ·cases h8
     ·exact hT (h8 _ (x_ _)).2
    ·refine aj hk ?_;conv=>whnf
     refine iI (r:=.bool false) rfl rfl (λw=>rfl) (λw=>rfl) ?_;conv=>whnf
     refine ah ?_;conv=>whnf
     refine dm (m+1) ⟨by omega,λi hi Fk=>?_⟩ (by omega) rfl;rcases Nat.lt_succ_iff_lt_or_eq.1 Fk with iu|rfl
     ·exact tY i hi iu
     ·exact⟨h7,hT⟩
   ·refine⟨?_,rfl⟩;rw[fk];refine .inr ⟨rfl,h3,by simp only;omega,hA,λt ht=>?_⟩;change t∈ss at ht
    obtain⟨i,hi,rfl⟩:=List.mem_iff_getElem.1 ht;exact tY i hi (by omega)
theorem F0 (p:Option Addr) (n c:Nat) (cs:List eD) (locals:Int) (s:dY) (l k:Value) (h:Heap) (hr:fP h (.slice p n c) cs) (h1:dy h l s.locals) (h2:dy h k s.stack) :
  Pure prog 143 [.slice p n c,.int .i64 locals,.agg #[.bool s.told,l,k]] h (tf (cI cs/\wB cs.length locals s)):=by
 obtain rfl:=hr.n;obtain⟨told,sl,ss⟩:=s;simp only at h1 h2;have b1:=h1.1;have b2:=h2.1;have f1:=h1.len;have f2:=h2.len;obtain⟨p1,c1,rfl,_,_⟩:=f1;obtain⟨p2,c2,rfl,_,_⟩:=f2;refine iC au func143 Wv Ww rfl ?_;conv=>whnf
 refine aj (qb p _ c cs h hr) ?_;conv=>whnf
 apply aT<;>intro hc;all_goals conv=>whnf
 ·exact⟨by rw[dD];exact λh2=>hc h2.1,rfl⟩
 cases told with
 | false =>
  conv=>whnf
  apply ax<;>intro h3;all_goals conv=>whnf
  ·refine⟨(Aq ⟨λh4=>?_,λh4=>?_⟩).symm,rfl⟩
   ·rcases h4.2 with ⟨_,_,h5⟩|⟨h5,_⟩
    ·simp only at h5;simp[h5]
    ·cases h5
   ·exact⟨hc,.inl ⟨rfl,List.eq_nil_of_length_eq_zero (by simpa using h3),List.eq_nil_of_length_eq_zero (by simpa using h4)⟩⟩
  ·refine⟨?_,rfl⟩;rw[dD];rintro⟨_,⟨_,h5,_⟩|⟨h5,_⟩⟩
   ·simp only at h5;simp[h5]at h3
   ·cases h5
 | true =>
  conv=>whnf
  apply aT<;>intro h3;all_goals conv=>whnf
  ·refine⟨?_,rfl⟩;rw[dD];rintro⟨_,⟨h5,_⟩|⟨_,h5,_⟩⟩
   ·cases h5
   ·exact h3 h5
  apply ax<;>intro h4;all_goals conv=>whnf
  ·refine⟨?_,rfl⟩;rw[dD];rintro⟨_,⟨h5,_⟩|⟨_,_,h5,_⟩⟩
   ·cases h5
   ·simp only at h5;omega
  refine fh [0,5,7] [5] (λm:Nat=>m<=sl.length/\∀ i (hi:i < sl.length),i < m->jk cs.length sl[i]) (λm=>sl.length-m)
   (λm=>([.v (.slice p cs.length c),.l 5 0,.v (.int .i64 m)],[some [.bool true,.slice p1 sl.length c1,.slice p2 ss.length c2]],h)) 0 ⟨by omega,λl hl h=>by omega⟩ rfl ?_
  rintro m ⟨hm,hg⟩;conv=>whnf
  apply ax<;>intro h5;all_goals conv=>whnf
  ·have tG:m < sl.length:=by omega
   have g:=h1.get tG;obtain⟨bb,off,vs,hq,g1,g2,g3⟩:=g;subst g2;refine aq ?_;conv=>whnf
   refine aG hq ?_;conv=>whnf
   refine ld (aE g1 (i:=0) rfl) ?_;conv=>whnf
   refine aj (D4 p _ c cs _ h hr) ?_;conv=>whnf
   apply aT<;>intro h6;all_goals conv=>whnf
   ·refine⟨?_,rfl⟩;rw[dD];rintro⟨_,⟨h7,_⟩|⟨_,_,_,h7,_⟩⟩
    ·cases h7
    ·exact h6 ⟨hc,h7 _ (x_ _)⟩
   ·refine ah ?_;conv=>whnf
    refine dm (m+1) ⟨by omega,λi hi Fk=>?_⟩ (by omega) rfl;rcases Nat.lt_succ_iff_lt_or_eq.1 Fk with iu|rfl
    ·exact hg i hi iu
    ·exact h6.2
  ·have hA:∀ t∈sl,jk cs.length t:=by
    intro t ht;obtain⟨i,hi,rfl⟩:=List.mem_iff_getElem.1 ht;exact hg i hi (by omega)
   refine fh [0,5,8] [5] (λm:Nat=>m<=ss.length/\∀ i (hi:i < ss.length),i < m->ss[i]≠0/\jk cs.length ss[i]) (λm=>ss.length-m)
    (λm=>([.v (.slice p cs.length c),.l 5 0,.v (.int .i64 m)],[some [.bool true,.slice p1 sl.length c1,.slice p2 ss.length c2]],h)) 0 ⟨by omega,λl hl h=>by omega⟩ rfl ?_
   rintro m ⟨hm,tY⟩;conv=>whnf
   apply ax<;>intro h6;all_goals conv=>whnf
   ·have tG:m < ss.length:=by omega
    have g:=h2.get tG;obtain⟨bb,off,vs,hq,g1,g2,g3⟩:=g;subst g2;refine aq ?_;conv=>whnf
    refine aG hq ?_;conv=>whnf
    refine ld (aE g1 (i:=0) rfl) ?_;conv=>whnf
    refine aj (D4 p _ c cs _ h hr) ?_;conv=>whnf
    apply aT<;>intro h7;all_goals conv=>whnf
    ·refine⟨?_,rfl⟩;rw[dD];rintro⟨_,⟨h8,_⟩|⟨_,_,_,_,h8⟩⟩
     ·cases h8
     ·exact h7 ⟨hc,(h8 _ (x_ _)).2⟩
    refine aq ?_;conv=>whnf
    refine aG hq ?_;conv=>whnf
    refine ld (aE g1 (i:=0) rfl) ?_;conv=>whnf
    apply ax<;>intro h8;all_goals conv=>whnf
    ·refine⟨?_,rfl⟩;rw[dD];rintro⟨_,⟨h9,_⟩|⟨_,_,_,_,h9⟩⟩
     ·cases h9
     ·exact(h9 _ (x_ _)).1 h8
    ·refine ah ?_;conv=>whnf
     refine dm (m+1) ⟨by omega,λi hi Fk=>?_⟩ (by omega) rfl;rcases Nat.lt_succ_iff_lt_or_eq.1 Fk with iu|rfl
     ·exact tY i hi iu
     ·exact⟨h8,h7.2⟩
   ·refine⟨?_,rfl⟩;rw[fk];refine⟨hc,.inr ⟨rfl,h3,by simp only;omega,hA,λt ht=>?_⟩⟩;change t∈ss at ht
    obtain⟨i,hi,rfl⟩:=List.mem_iff_getElem.1 ht;exact tY i hi (by omega)
def cG (m:cL):List Int:=(if 0<=m.cls then [8+m.cls]else [])++m.args
theorem Oz (vs:List Value) (m:cL) (h:Heap) (hm:eM h vs m) (hb:8+m.cls<=9223372036854775807) (hl:m.args.length<=1000000) :
  bI prog 137 [.agg ⟨vs⟩] h λv h'=>h.le h'/\∃ B,dR h' v (cG m) B/\∀ b∈B,h b=none:=by
 obtain⟨a,c,s,k,rfl,h1,_,_,_,h2,_⟩:=hm;have f:=h2.len;obtain⟨p1,c1,rfl,_,_⟩:=f;refine bZ au func137 Wj Wk rfl ?_;conv=>whnf
 apply ax<;>intro h3;all_goals conv=>whnf
 ·refine ah ?_;conv=>whnf
  refine dA (h0:=h) (xs:=[]) (ys:=[bN (8+m.cls)]) (B:=[]) ⟨by simp,.inl ⟨rfl,rfl,rfl⟩⟩ (by simp) (z_ h) rfl rfl (by simp[bN]) rfl rfl (by simp) (by simp) ?_;intro v' h' B' g1 g2 g3 g4 g5;have ff:=g2.form;obtain⟨p',c',rfl,pW⟩:=ff;conv=>whnf
  refine rA (h2.le g1) ?_;conv=>whnf
  refine dA (ys:=m.args.map bN) g2 g3 g1 (ek _).symm (by simp) (by simp[bN]) (dS _) rfl (by simp;omega) (by simp;omega) ?_;intro v'' Ao B'' k1 k2 k3 k4 k5;conv=>whnf
  refine⟨k1,B'',?_,k3⟩;unfold dR cG;rw[if_pos h3];simpa using k2
 ·refine rA h2 ?_;conv=>whnf
  refine dA (h0:=h) (xs:=[]) (ys:=m.args.map bN) (B:=[]) ⟨by simp,.inl ⟨rfl,rfl,rfl⟩⟩ (by simp) (z_ h) (ek _).symm (by simp) (by simp[bN]) (dS _) rfl (by simp;omega) (by simp;omega) ?_;intro v'' Ao B'' k1 k2 k3 k4 k5;conv=>whnf
  refine⟨k1,B'',?_,k3⟩;unfold dR cG;rw[if_neg h3];simpa using k2
def fQ (n:Nat) (m:cL):Prop :=
 ((m.cls = -1/\m.fG=0)\/(0 < m.cls/\m.cls < n/\0<=m.fG/\m.fG < 3))/\m.args.length<=2/\dg n m.out/\iS n m.args/\m.locals<=3/\(cG m).length<=m.locals
theorem KO (us vs:List Value) (u:aO) (m:cL) (h:Heap) (hu:dG h us u) (hm:eM h vs m):Pure prog 72 [.agg ⟨us⟩,.agg ⟨vs⟩] h (tf (fQ u.J.length m)):=by
 have JU:=hm;obtain⟨a,c,s,k,rfl,h1,h2,h3,h4,h5,h6,h7,h8⟩:=hm;obtain⟨cv,mv,rfl,hcs,fM⟩:=hu;have hl:=hcs.1;have f:=hcs.len;obtain⟨p,cc,rfl,_,_⟩:=f;have f:=h5.len;obtain⟨p1,c1,rfl,_,_⟩:=f;have f:=fM.len;obtain⟨p2,c2,rfl,_,_⟩:=f;have f:=h6.len;obtain⟨p3,c3,rfl,_,_⟩:=f;have f:=h7.len;obtain⟨p4,c4,rfl,_,_⟩:=f;have f:=h8.len;obtain⟨p5,c5,rfl,_,_⟩:=f;have no:¬fQ u.J.length m->.bool false=tf (fQ u.J.length m):=λhx=>(dD hx).symm;refine Ol au func72 F72 abM rfl ?_;conv=>whnf
 repeat' ((first
  | apply ax<;>intro _
  | apply aT<;>intro _
  | refine aj (oL _ _ _ _ _) ?_)<;>conv=>whnf)
 all_goals first
  | (exfalso;omega)
  | exact⟨no (by intro hx;have Hs:=hx.1;have FW:=hx.2.1;omega),z_ h⟩
  | skip
 all_goals
  refine aj (ry _ _ _ (by omega) h3) ?_;conv=>whnf
  apply aT<;>intro g1;all_goals conv=>whnf
  ·exact⟨no (λhx=>g1 hx.2.2.1),z_ h⟩
  refine fh [2,3,48,49,50] [2,3] (λi:Nat=>i<=m.args.length/\∀ j (hj:j < m.args.length),j < i->dg u.J.length m.args[j]) (λi=>m.args.length-i)
   (λi=>([.l 2 0,.l 3 0,.v (.slice p1 m.args.length c1),.v (.int .i64 m.args.length),.v (.int .i64 i)],
    [some [.slice p u.J.length cc,.slice p2 u.methods.length c2],some [.int .i64 m.cls,.int .i64 m.fG,.slice p1 m.args.length c1,.int .i64 m.out,.int .i64 m.locals,.slice p3 m.code.length c3,.slice p4 m.aQ.length c4,.slice p5 m.catches.length c5]],h)) 0 ⟨by omega,λl hl h=>by omega⟩ rfl ?_
  rintro i ⟨hi,hg⟩;conv=>whnf
  apply ax<;>intro g2;all_goals conv=>whnf
  ·have tG:i < m.args.length:=by omega
   have g:=h5.get tG;obtain⟨bb,off,vs,hq,e1,e2,e3⟩:=g;subst e2;refine aq ?_;conv=>whnf
   refine aG hq ?_;conv=>whnf
   refine ld (aE e1 (i:=0) rfl) ?_;conv=>whnf
   refine aj (ry _ _ _ (by omega) e3) ?_;conv=>whnf
   apply aT<;>intro g3;all_goals conv=>whnf
   ·exact⟨no (λhx=>g3 (hx.2.2.2.1 _ (x_ _))),z_ h⟩
   ·refine ah ?_;conv=>whnf
    refine dm (i+1) ⟨by omega,λj hj jj=>?_⟩ (by omega) rfl;rcases Nat.lt_succ_iff_lt_or_eq.1 jj with iu|rfl
    ·exact hg j hj iu
    ·exact g3
  ·have hA:iS u.J.length m.args:=by
    intro t ht;obtain⟨j,hj,rfl⟩:=List.mem_iff_getElem.1 ht;exact hg j hj (by omega)
   apply ax<;>intro g3;all_goals conv=>whnf
   ·refine cX (Oz _ m h JU (by omega) (by omega)) ?_;rintro v h' ⟨hle,B,ho,hB⟩;refine⟨hle,?_⟩;have ff:=ho.form;obtain⟨p',c',rfl,pW⟩:=ff;conv=>whnf
    refine⟨(Aq ⟨λhx=>?_,λhx=>?_⟩).symm,hle⟩
    ·have:=hx.2.2.2.2.2;simpa using this
    ·exact⟨by omega,by omega,g1,hA,by omega,by simpa using hx⟩
   ·exact⟨no (λhx=>g3 hx.2.2.2.2.1),z_ h⟩
theorem KP (us vs:List Value) (u:aO) (m:cL) (h:Heap) (hu:dG h us u) (hm:eM h vs m):Pure prog 142 [.agg ⟨us⟩,.agg ⟨vs⟩] h (tf (fQ u.J.length m)):=by
 obtain⟨a,c,s,k,rfl,h1,h2,h3,h4,h5,h6,h7,h8⟩:=hm;obtain⟨cv,mv,rfl,hcs,fM⟩:=hu;have hl:=hcs.1;have mz:=h5.1;have f:=hcs.len;obtain⟨p,cc,rfl,_,_⟩:=f;have f:=h5.len;obtain⟨p1,c1,rfl,_,_⟩:=f;have f:=fM.len;obtain⟨p2,c2,rfl,_,_⟩:=f;have f:=h6.len;obtain⟨p3,c3,rfl,_,_⟩:=f;have f:=h7.len;obtain⟨p4,c4,rfl,_,_⟩:=f;have f:=h8.len;obtain⟨p5,c5,rfl,_,_⟩:=f;have no:¬fQ u.J.length m->.bool false=tf (fQ u.J.length m):=λhx=>(dD hx).symm;have hG:((cG m).length:Int)=(if 0<=m.cls then 1 else 0)+m.args.length:=by
  unfold cG;split<;>simp
  omega
 refine iC au func142 Wt Wu rfl ?_;conv=>whnf
 apply ax<;>intro d0;all_goals conv=>whnf
 all_goals
  simp only[d0,if_true,if_false]at hG;apply ax<;>intro d1;all_goals conv=>whnf
  ·exact⟨no (by intro hx;have:=hx.1;omega),rfl⟩
  refine ah ?_;conv=>whnf
  refine aj (dP _ _ _ _) ?_;conv=>whnf
  apply aT<;>intro d2;all_goals conv=>whnf
  ·exact⟨no (by intro hx;have:=hx.1;omega),rfl⟩
  apply ax<;>intro d3;all_goals conv=>whnf
  ·exact⟨no (by intro hx;have:=hx.2.1;omega),rfl⟩
  refine aj (sE _ _ _ _ _ hl) ?_;conv=>whnf
  apply aT<;>intro d4;all_goals conv=>whnf
  ·exact⟨no (λhx=>d4 hx.2.2.1),rfl⟩
  refine ah ?_;conv=>whnf
  refine aj (dP _ _ _ _) ?_;conv=>whnf
  apply aT<;>intro d5;all_goals conv=>whnf
  ·exact⟨no (by intro hx;have:=hx.2.2.2.2;omega),rfl⟩
  refine fh [2,3,6] [2,3] (λi:Nat=>i<=m.args.length/\∀ j (hj:j < m.args.length),j < i->dg u.J.length m.args[j]) (λi=>m.args.length-i)
   (λi=>([.l 2 0,.l 3 0,.v (.int .i64 i)],
    [some [.slice p u.J.length cc,.slice p2 u.methods.length c2],some [.int .i64 m.cls,.int .i64 m.fG,.slice p1 m.args.length c1,.int .i64 m.out,.int .i64 m.locals,.slice p3 m.code.length c3,.slice p4 m.aQ.length c4,.slice p5 m.catches.length c5]],h)) 0 ⟨by omega,λl hl h=>by omega⟩ rfl ?_
  rintro i ⟨hi,hg⟩;conv=>whnf
  apply ax<;>intro g2;all_goals conv=>whnf
  ·have tG:i < m.args.length:=by omega
   have g:=h5.get tG;obtain⟨bb,off,vs,hq,e1,e2,e3⟩:=g;subst e2;refine aq ?_;conv=>whnf
   refine aG hq ?_;conv=>whnf
   refine ld (aE e1 (i:=0) rfl) ?_;conv=>whnf
   refine aK (sE _ _ _ _ _ hl) ?_;conv=>whnf
   apply aT<;>intro g3;all_goals conv=>whnf
   ·exact⟨no (λhx=>g3 (hx.2.2.2.1 _ (x_ _))),rfl⟩
   ·refine ah ?_;conv=>whnf
    refine dm (i+1) ⟨by omega,λj hj jj=>?_⟩ (by omega) rfl;rcases Nat.lt_succ_iff_lt_or_eq.1 jj with iu|rfl
    ·exact hg j hj iu
    ·exact g3
  ·have hA:iS u.J.length m.args:=by
    intro t ht;obtain⟨j,hj,rfl⟩:=List.mem_iff_getElem.1 ht;exact hg j hj (by omega)
   apply ax<;>intro g3;all_goals conv=>whnf
   ·first
     | (exfalso;omega)
     | (
      refine aj (dP _ _ _ _) ?_;conv=>whnf
      apply ax<;>intro g4;all_goals conv=>whnf
      ·exact⟨(fk ⟨by omega,by omega,d4,hA,by omega,by omega⟩).symm,rfl⟩
      ·apply ax<;>intro g5;all_goals conv=>whnf
       ·exfalso;omega
       ·exact⟨no (by intro hx;have:=hx.1;omega),rfl⟩)
   ·first
     | (exfalso;omega)
     | (
      apply ax<;>intro g5;all_goals conv=>whnf
      ·refine⟨(Aq ⟨λhx=>?_,λhx=>?_⟩).symm,rfl⟩
       ·have:=hx.1;omega
       ·exact⟨by omega,by omega,d4,hA,by omega,by omega⟩
      ·exfalso;omega)
def eX (a b:Int):Value:=.agg #[.int .i64 a,.int .i64 b]
def ku:List (Int × Value):=[(1,eX 1 0),(2,eX 0 0),(3,eX 2 0),(4,eX 2 0),(5,eX 0 0),(6,eX 0 0),(7,eX 3 0),(8,eX 4 0),(9,eX 4 0),(10,eX 4 0),(11,eX 4 0),(12,eX 5 0),(13,eX 6 0),(14,eX 0 0),(15,eX 6 0),(16,eX 6 0),(17,eX 5 8),(18,eX 5 8),(19,eX 5 0),(20,eX 7 0),(21,eX 5 9),(22,eX 0 0),(23,eX 0 0),(24,eX 0 0)]
theorem OA (h:Heap):bI prog 71 [] h λv h'=>∃ b,v=.map (some b)/\h b=none/\h'=h.set b (qK ku):=by
 refine bZ au func71 F71 abL rfl ?_;conv=>whnf
 refine RO (λb hb=>?_);conv=>whnf
 repeat' (refine Om rfl rfl rfl (λw=>rfl) (λw=>rfl) rfl ?_;conv=>whnf)
 exact⟨b,rfl,hb,rfl⟩
def KQ:cL:=⟨0,0,[],0,0,[],[],[]⟩
def aV (u:aO) (n:Int):cL:=u.methods.getD n.toNat KQ
theorem gU {u:aO} {n:Int} {i:Nat} (hi:i < u.methods.length) (hn:n=i):aV u n=u.methods[i]:=by
 subst hn;simp[aV,hi]
theorem dG.form {h:Heap} {us:List Value} {u:aO} (hu:dG h us u):∃ p c q d,us=[.slice p u.J.length c,.slice q u.methods.length d]/\fP h (.slice p u.J.length c) u.J/\Row 8 eM h (.slice q u.methods.length d) u.methods /\
  u.J.length<=140737488351232/\u.methods.length<=140737488351232:=by
 obtain⟨cv,mv,rfl,hcs,fM⟩:=hu;obtain⟨p,cc,rfl,_,h1⟩:=hcs.len;obtain⟨p2,c2,rfl,_,h2⟩:=fM.len;exact⟨p,cc,p2,c2,rfl,hcs,fM,h1,h2⟩
theorem eM.form {h:Heap} {vs:List Value} {m:cL} (hm:eM h vs m):∃ p1 c1 p2 c2 p3 c3 p4 c4,vs=[.int .i64 m.cls,.int .i64 m.fG,.slice p1 m.args.length c1,.int .i64 m.out,.int .i64 m.locals,.slice p2 m.code.length c2,.slice p3 m.aQ.length c3,.slice p4 m.catches.length c4] /\
  cY m.cls/\cY m.fG/\cY m.out/\cY m.locals/\dy h (.slice p1 m.args.length c1) m.args/\Row 3 DU h (.slice p2 m.code.length c2) m.code/\Row 3 mV h (.slice p3 m.aQ.length c3) m.aQ/\Row 4 DV h (.slice p4 m.catches.length c4) m.catches /\
  m.args.length<=140737488351232/\m.code.length<=140737488351232/\m.aQ.length<=140737488351232/\m.catches.length<=140737488351232:=by
 obtain⟨a,c,s,k,rfl,h1,h2,h3,h4,h5,h6,h7,h8⟩:=hm;obtain⟨p1,c1,rfl,_,b1⟩:=h5.len;obtain⟨p2,c2,rfl,_,b2⟩:=h6.len;obtain⟨p3,c3,rfl,_,b3⟩:=h7.len;obtain⟨p4,c4,rfl,_,b4⟩:=h8.len;exact⟨p1,c1,p2,c2,p3,c3,p4,c4,rfl,h1,h2,h3,h4,h5,h6,h7,h8,b1,b2,b3,b4⟩
def bz (u:aO) (m:cL) (a:Int) (jY n:Int):Prop :=
 if jY=1 then isWord n=true
 else if jY=2 then 0<=n/\n < m.locals
 else if jY=3 then 1<=n/\n<=4
 else if jY=4 then 0<=n/\n < m.code.length
 else if jY=5 then 0<=n/\n < u.J.length
 else if jY=6 then n=0\/n=1
 else if jY=7 then (0<=n/\n < u.methods.length)/\(aV u n).cls = -1
 else if jY=8 then 0<=n/\n < (dw u.J a).length
 else if jY=9 then 0<=n/\n < 3
 else n=0
theorem xA (us ms:List Value) (u:aO) (m:cL) (k a b jY n:Int) (h:Heap) (hu:dG h us u) (hm:eM h ms m) (ok:cI u.J) (ha:jY=8->0<=a/\a < u.J.length) :
  Pure prog 138 [.agg ⟨us⟩,.agg ⟨ms⟩,.agg #[.int .i64 k,.int .i64 a,.int .i64 b],.int .i64 jY,.int .i64 n] h (tf (bz u m a jY n)):=by
 obtain⟨p,cc,q,d,rfl,hcs,fM,ji,hl2⟩:=hu.form;obtain⟨p1,c1,p2,c2,p3,c3,p4,c4,rfl,h1,h2,h3,h4,h5,h6,h7,h8,b1,b2,b3,b4⟩:=hm.form;refine Ol au func138 Wl Wm rfl ?_;conv=>whnf
 apply ax<;>intro w1;all_goals conv=>whnf
 ·refine aj (uS _ _) ?_;conv=>whnf
  exact⟨by simp[bz,w1,tf],z_ h⟩
 apply ax<;>intro w2;all_goals conv=>whnf
 ·repeat' ((first|refine cx ?_|refine bH ?_|refine dF ?_|refine cN ?_|apply ax<;>intro _|apply aT<;>intro _|apply eK<;>intro _|apply cJ<;>intro _|refine aq ?_|refine ah ?_|refine ptr ?_)<;>conv=>whnf)
  all_goals first|(exfalso;omega)|exact⟨gy (by (try simp only[bz,w2,if_true,if_false])<;>first|omega|(simp;omega)|simp),z_ h⟩|exact⟨dZ (by (try simp only[bz,w2,if_true,if_false])<;>first|omega|(simp;omega)|simp),z_ h⟩|exact⟨bY (by (try simp only[bz,w2,if_true,if_false])<;>first|omega|(simp;omega)|simp),z_ h⟩
 apply ax<;>intro w3;all_goals conv=>whnf
 ·repeat' ((first|refine cx ?_|refine bH ?_|refine dF ?_|refine cN ?_|apply ax<;>intro _|apply aT<;>intro _|apply eK<;>intro _|apply cJ<;>intro _|refine aq ?_|refine ah ?_|refine ptr ?_)<;>conv=>whnf)
  all_goals first|(exfalso;omega)|exact⟨gy (by (try simp only[bz,w3,if_true,if_false])<;>first|omega|(simp;omega)|simp),z_ h⟩|exact⟨dZ (by (try simp only[bz,w3,if_true,if_false])<;>first|omega|(simp;omega)|simp),z_ h⟩|exact⟨bY (by (try simp only[bz,w3,if_true,if_false])<;>first|omega|(simp;omega)|simp),z_ h⟩
 apply ax<;>intro w4;all_goals conv=>whnf
 ·repeat' ((first|refine cx ?_|refine bH ?_|refine dF ?_|refine cN ?_|apply ax<;>intro _|apply aT<;>intro _|apply eK<;>intro _|apply cJ<;>intro _|refine aq ?_|refine ah ?_|refine ptr ?_)<;>conv=>whnf)
  all_goals first|(exfalso;omega)|exact⟨gy (by (try simp only[bz,w4,if_true,if_false])<;>first|omega|(simp;omega)|simp),z_ h⟩|exact⟨dZ (by (try simp only[bz,w4,if_true,if_false])<;>first|omega|(simp;omega)|simp),z_ h⟩|exact⟨bY (by (try simp only[bz,w4,if_true,if_false])<;>first|omega|(simp;omega)|simp),z_ h⟩
 apply ax<;>intro w5;all_goals conv=>whnf
 ·refine aj (oL _ _ _ _ _) ?_;conv=>whnf
  exact⟨by simp[bz,w5],z_ h⟩
 apply ax<;>intro w6;all_goals conv=>whnf
 ·repeat' ((first|refine cx ?_|refine bH ?_|refine dF ?_|refine cN ?_|apply ax<;>intro _|apply aT<;>intro _|apply eK<;>intro _|apply cJ<;>intro _|refine aq ?_|refine ah ?_|refine ptr ?_)<;>conv=>whnf)
  all_goals first|(exfalso;omega)|exact⟨gy (by (try simp only[bz,w6,if_true,if_false])<;>first|omega|(simp;omega)|simp),z_ h⟩|exact⟨dZ (by (try simp only[bz,w6,if_true,if_false])<;>first|omega|(simp;omega)|simp),z_ h⟩|exact⟨bY (by (try simp only[bz,w6,if_true,if_false])<;>first|omega|(simp;omega)|simp),z_ h⟩
 apply ax<;>intro w7;all_goals conv=>whnf
 ·apply ax<;>intro g1;all_goals conv=>whnf
  ·apply ax<;>intro g2;all_goals conv=>whnf
   ·have hi:n.toNat < u.methods.length:=by omega
    have e:=fM.get hi;obtain⟨bb,off,vs,hq,e1,e2⟩:=e;obtain⟨_,_,_,_,e3,_⟩:=e2;subst e3;refine aq ?_;conv=>whnf
    refine aG hq ?_;conv=>whnf
    refine ld (aE e1 (i:=0) rfl) ?_;conv=>whnf
    have oE:aV u n=u.methods[n.toNat]:=gU hi (by omega);first|(exfalso;omega)|exact⟨gy (by (try simp only[bz,w7,if_true,if_false,oE])<;>first|omega|(simp;omega)|simp),z_ h⟩|exact⟨dZ (by (try simp only[bz,w7,if_true,if_false,oE])<;>first|omega|(simp;omega)|simp),z_ h⟩|exact⟨bY (by (try simp only[bz,w7,if_true,if_false,oE])<;>first|omega|(simp;omega)|simp),z_ h⟩
   ·first|(exfalso;omega)|exact⟨gy (by (try simp only[bz,w7,if_true,if_false])<;>first|omega|(simp;omega)|simp),z_ h⟩|exact⟨dZ (by (try simp only[bz,w7,if_true,if_false])<;>first|omega|(simp;omega)|simp),z_ h⟩|exact⟨bY (by (try simp only[bz,w7,if_true,if_false])<;>first|omega|(simp;omega)|simp),z_ h⟩
  ·first|(exfalso;omega)|exact⟨gy (by (try simp only[bz,w7,if_true,if_false])<;>first|omega|(simp;omega)|simp),z_ h⟩|exact⟨dZ (by (try simp only[bz,w7,if_true,if_false])<;>first|omega|(simp;omega)|simp),z_ h⟩|exact⟨bY (by (try simp only[bz,w7,if_true,if_false])<;>first|omega|(simp;omega)|simp),z_ h⟩
 apply ax<;>intro w8;all_goals conv=>whnf
 ·apply ax<;>intro g1;all_goals conv=>whnf
  ·refine aC (kU _ _ _ _ _ _ _ hcs ok (ha w8).1 (ha w8).2 (Nat.lt_succ_self _)) ?_;rintro v h' ⟨hle,B,ho,_⟩;have ff:=ho.form;obtain⟨p',c',rfl,pW⟩:=ff;conv=>whnf
   exact⟨gy (by simp only[bz,w8,if_true,if_false];simp;omega),hle⟩
  ·first|(exfalso;omega)|exact⟨gy (by (try simp only[bz,w8,if_true,if_false])<;>first|omega|(simp;omega)|simp),z_ h⟩|exact⟨dZ (by (try simp only[bz,w8,if_true,if_false])<;>first|omega|(simp;omega)|simp),z_ h⟩|exact⟨bY (by (try simp only[bz,w8,if_true,if_false])<;>first|omega|(simp;omega)|simp),z_ h⟩
 apply ax<;>intro w9;all_goals conv=>whnf
 ·repeat' ((first|refine cx ?_|refine bH ?_|refine dF ?_|refine cN ?_|apply ax<;>intro _|apply aT<;>intro _|apply eK<;>intro _|apply cJ<;>intro _|refine aq ?_|refine ah ?_|refine ptr ?_)<;>conv=>whnf)
  all_goals first|(exfalso;omega)|exact⟨gy (by (try simp only[bz,w9,if_true,if_false])<;>first|omega|(simp;omega)|simp),z_ h⟩|exact⟨dZ (by (try simp only[bz,w9,if_true,if_false])<;>first|omega|(simp;omega)|simp),z_ h⟩|exact⟨bY (by (try simp only[bz,w9,if_true,if_false])<;>first|omega|(simp;omega)|simp),z_ h⟩
 first|(exfalso;omega)|exact⟨gy (by (try simp only[bz,w1,w2,w3,w4,w5,w6,w7,w8,w9,if_true,if_false])<;>first|omega|(simp;omega)|simp),z_ h⟩|exact⟨dZ (by (try simp only[bz,w1,w2,w3,w4,w5,w6,w7,w8,w9,if_true,if_false])<;>first|omega|(simp;omega)|simp),z_ h⟩|exact⟨bY (by (try simp only[bz,w1,w2,w3,w4,w5,w6,w7,w8,w9,if_true,if_false])<;>first|omega|(simp;omega)|simp),z_ h⟩
theorem sF (k:Int) (v:Value):∀ {l:List (Int × Value)} {i j:Nat},lA k l i=some (j,v)->(k,v)∈l
 | [],_,_,h=>by cases h
 | (m,x)::l,i,j,h=>by
  rw[lA]at h;split at h
  ·rename_i hk;subst hk;cases h;exact List.mem_cons_self
  ·exact List.mem_cons_of_mem _ (sF k v h)
def tH (k:Int):Option (Int × Int):=match lA k ku 0 with
 | some (_,.agg ⟨[.int _ a,.int _ b]⟩)=>some (a,b)
 | _=>none
theorem F1 (k:Int):(lA k ku 0=none/\tH k=none)\/∃ i a b,lA k ku 0=some (i,eX a b)/\tH k=some (a,b)/\(b=0\/a=5)/\a≠8:=by
 have key:lA k ku 0=none\/∃ i a b,lA k ku 0=some (i,eX a b)/\(b=0\/a=5)/\a≠8:=by
  cases hf:lA k ku 0 with
  | none=>exact .inl rfl
  | some q =>
   obtain⟨i,v⟩:=q;have hm:=sF k v hf;simp only[ku,List.mem_cons,List.not_mem_nil,or_false,Prod.mk.injEq]at hm;rcases hm with ⟨_,rfl⟩|⟨_,rfl⟩|⟨_,rfl⟩|⟨_,rfl⟩|⟨_,rfl⟩|⟨_,rfl⟩|⟨_,rfl⟩|⟨_,rfl⟩|⟨_,rfl⟩|⟨_,rfl⟩|⟨_,rfl⟩|⟨_,rfl⟩|⟨_,rfl⟩|⟨_,rfl⟩|⟨_,rfl⟩|⟨_,rfl⟩|⟨_,rfl⟩|⟨_,rfl⟩|⟨_,rfl⟩|⟨_,rfl⟩|⟨_,rfl⟩|⟨_,rfl⟩|⟨_,rfl⟩|⟨_,rfl⟩;all_goals refine .inr ⟨_,_,_,rfl,?_,?_⟩<;>decide
 rcases key with h|⟨i,a,b,h,h2⟩
 ·exact .inl ⟨h,by simp[tH,h]⟩
 ·exact .inr ⟨i,a,b,h,by simp[tH,h,eX],h2⟩
def eU (u:aO) (m:cL) (x:ez):Prop:=∃ a b,tH x.kind=some (a,b)/\bz u m x.a a x.a/\bz u m x.a b x.b
def AO (u:aO) (m:cL):Prop:=1<=m.code.length/\m.code.length<=12/\m.aQ.length=m.code.length/\(∀ x∈m.code,eU u m x)/\∀ s∈m.aQ,wB u.J.length m.locals s
theorem KR (us ms:List Value) (u:aO) (m:cL) (b:Nat) (h:Heap) (hu:dG h us u) (hm:eM h ms m) (ok:cI u.J) (hb:h b=some (qK ku)) :
  Pure prog 73 [.agg ⟨us⟩,.agg ⟨ms⟩,.map (some b)] h (tf (AO u m)):=by
 have iw:=hu;have JU:=hm;obtain⟨p,cc,q,d,rfl,hcs,fM,ji,hl2⟩:=hu.form;obtain⟨p1,c1,p2,c2,p3,c3,p4,c4,rfl,h1,h2,h3,h4,h5,h6,h7,h8,b1,b2,b3,b4⟩:=hm.form;have no:¬AO u m->.bool false=tf (AO u m):=λhx=>(dD hx).symm;refine iC au func73 F73 abN rfl ?_;conv=>whnf
 repeat' ((first|refine cx ?_|refine bH ?_|refine dF ?_|refine cN ?_|apply ax<;>intro _|apply aT<;>intro _|apply eK<;>intro _|apply cJ<;>intro _|refine aq ?_|refine ah ?_|refine ptr ?_)<;>conv=>whnf)
 all_goals first|exact⟨no (by intro hx;have:=hx.1;have:=hx.2.1;have:=hx.2.2.1;omega),rfl⟩|skip
 refine fh [2,3,4,33,34,35] [3,4] (λi:Nat=>i<=m.code.length/\∀ j (hj:j < m.code.length),j < i->eU u m m.code[j]) (λi=>m.code.length-i)
  (λi=>([.v (.map (some b)),.l 3 0,.l 4 0,.v (.slice p2 m.code.length c2),.v (.int .i64 m.code.length),.v (.int .i64 i)],
   [some [.slice p u.J.length cc,.slice q u.methods.length d],some [.int .i64 m.cls,.int .i64 m.fG,.slice p1 m.args.length c1,.int .i64 m.out,.int .i64 m.locals,.slice p2 m.code.length c2,.slice p3 m.aQ.length c3,.slice p4 m.catches.length c4]],h)) 0 ⟨by omega,λl hl h=>by omega⟩ rfl ?_
 rintro i ⟨hi,hg⟩;conv=>whnf
 apply ax<;>intro g2;all_goals conv=>whnf
 ·have tG:i < m.code.length:=by omega
  have e:=h6.get tG;obtain⟨bb,off,vs,hq,e1,e2,e3,e4,e5⟩:=e;subst e2;have bad:¬eU u m m.code[i]->Value.bool false=tf (AO u m):=λhx=>no (λhy=>hx (hy.2.2.2.1 _ (x_ _)));refine aq ?_;conv=>whnf
  refine aG hq ?_;conv=>whnf
  refine dJ e1 ?_;conv=>whnf
  rcases F1 m.code[i].kind with ⟨hf,hw⟩|⟨j,a,w,hf,hw,Qt,ha8⟩
  ·refine Oo (z:=eX 0 0) rfl rfl (λw=>rfl) (λw=>rfl) (λw=>rfl) hb hf ?_;conv=>whnf
   exact⟨bad (by rintro⟨_,_,hx,_⟩;rw[hw]at hx;cases hx),rfl⟩
  ·refine On (z:=eX 0 0) rfl rfl (λw=>rfl) (λw=>rfl) (λw=>rfl) hb hf ?_;conv=>whnf
   refine aj (xA _ _ u m _ _ _ _ _ h iw JU ok (λhx=>absurd hx ha8)) ?_;conv=>whnf
   apply aT<;>intro g3;all_goals conv=>whnf
   ·exact⟨bad (by rintro⟨_,_,hx,hy,_⟩;rw[hw]at hx;cases hx;exact g3 hy),rfl⟩
   ·refine aj (xA _ _ u m _ _ _ _ _ h iw JU ok ?_) ?_
    ·intro hx;have ha:a=5:=by omega
     subst ha;simpa [bz]using g3
    conv=>whnf
    apply aT<;>intro g4;all_goals conv=>whnf
    ·exact⟨bad (by rintro⟨_,_,hx,_,hy⟩;rw[hw]at hx;cases hx;exact g4 hy),rfl⟩
    ·refine ah ?_;conv=>whnf
     refine dm (i+1) ⟨by omega,λj hj jj=>?_⟩ (by omega) rfl;rcases Nat.lt_succ_iff_lt_or_eq.1 jj with iu|rfl
     ·exact hg j hj iu
     ·exact⟨a,w,hw,g3,g4⟩
 ·have hA:∀ x∈m.code,eU u m x:=by
   intro t ht;obtain⟨j,hj,rfl⟩:=List.mem_iff_getElem.1 ht;exact hg j hj (by omega)
  refine fh [3,4,72,73,74] [3,4] (λi:Nat=>i<=m.aQ.length/\∀ j (hj:j < m.aQ.length),j < i->wB u.J.length m.locals m.aQ[j]) (λi=>m.aQ.length-i)
   (λi=>([.l 3 0,.l 4 0,.v (.slice p3 m.aQ.length c3),.v (.int .i64 m.aQ.length),.v (.int .i64 i)],
    [some [.slice p u.J.length cc,.slice q u.methods.length d],some [.int .i64 m.cls,.int .i64 m.fG,.slice p1 m.args.length c1,.int .i64 m.out,.int .i64 m.locals,.slice p2 m.code.length c2,.slice p3 m.aQ.length c3,.slice p4 m.catches.length c4]],h)) 0 ⟨by omega,λl hl h=>by omega⟩ rfl ?_
  rintro i ⟨hi,hg⟩;conv=>whnf
  apply ax<;>intro g2;all_goals conv=>whnf
  ·have tG:i < m.aQ.length:=by omega
   have e:=h7.get tG;obtain⟨bb,off,vs,hq,e1,l,k,e2,e3,e4⟩:=e;subst e2;obtain⟨p5,c5,rfl,_,_⟩:=e3.len;obtain⟨p6,c6,rfl,_,_⟩:=e4.len;refine aq ?_;conv=>whnf
   refine aG hq ?_;conv=>whnf
   refine dJ e1 ?_;conv=>whnf
   refine aj (IL _ _ _ _ _ _ _ h ji e3 e4) ?_;conv=>whnf
   apply aT<;>intro g3;all_goals conv=>whnf
   ·exact⟨no (λhx=>g3 (hx.2.2.2.2 _ (x_ _))),rfl⟩
   ·refine ah ?_;conv=>whnf
    refine dm (i+1) ⟨by omega,λj hj jj=>?_⟩ (by omega) rfl;rcases Nat.lt_succ_iff_lt_or_eq.1 jj with iu|rfl
    ·exact hg j hj iu
    ·exact g3
  ·refine⟨(fk ⟨by omega,by omega,by omega,hA,?_⟩).symm,rfl⟩;intro t ht;obtain⟨j,hj,rfl⟩:=List.mem_iff_getElem.1 ht;exact hg j hj (by omega)
def wC (u:aO) (m:cL) (c:nK):Prop:=(0<=c.lo/\c.lo < m.code.length/\0<=c.to/\c.to < m.code.length)/\(c.lo < c.hi/\c.hi<=m.code.length)/\(0<=c.cls/\c.cls < u.J.length)/\up u.J c.cls 1=true
def oM (u:aO) (m:cL):Prop:=m.catches.length<=2/\∀ c∈m.catches,wC u m c
theorem D5 (us ms:List Value) (u:aO) (m:cL) (h:Heap) (hu:dG h us u) (hm:eM h ms m) (ok:cI u.J) :
  Pure prog 74 [.agg ⟨us⟩,.agg ⟨ms⟩] h (tf (oM u m)):=by
 obtain⟨p,cc,q,d,rfl,hcs,fM,ji,hl2⟩:=hu.form;obtain⟨p1,c1,p2,c2,p3,c3,p4,c4,rfl,h1,h2,h3,h4,h5,h6,h7,h8,b1,b2,b3,b4⟩:=hm.form;have no:¬oM u m->.bool false=tf (oM u m):=λhx=>(dD hx).symm;refine iC au func74 F74 abO rfl ?_;conv=>whnf
 apply ax<;>intro g1;all_goals conv=>whnf
 ·exact⟨no (λhx=>by have:=hx.1;omega),rfl⟩
 refine fh [2,3,12,13,14] [2,3] (λi:Nat=>i<=m.catches.length/\∀ j (hj:j < m.catches.length),j < i->wC u m m.catches[j]) (λi=>m.catches.length-i)
  (λi=>([.l 2 0,.l 3 0,.v (.slice p4 m.catches.length c4),.v (.int .i64 m.catches.length),.v (.int .i64 i)],
   [some [.slice p u.J.length cc,.slice q u.methods.length d],some [.int .i64 m.cls,.int .i64 m.fG,.slice p1 m.args.length c1,.int .i64 m.out,.int .i64 m.locals,.slice p2 m.code.length c2,.slice p3 m.aQ.length c3,.slice p4 m.catches.length c4]],h)) 0 ⟨by omega,λl hl h=>by omega⟩ rfl ?_
 rintro i ⟨hi,hg⟩;conv=>whnf
 apply ax<;>intro g2;all_goals conv=>whnf
 ·have tG:i < m.catches.length:=by omega
  have e:=h8.get tG;obtain⟨bb,off,vs,hq,e1,e2,e3,e4,e5,e6⟩:=e;subst e2;have bad:¬wC u m m.catches[i]->Value.bool false=tf (oM u m):=λhx=>no (λhy=>hx (hy.2 _ (x_ _)));refine aq ?_;conv=>whnf
  refine aG hq ?_;conv=>whnf
  refine dJ e1 ?_;conv=>whnf
  repeat' ((first|refine cx ?_|refine bH ?_|refine dF ?_|refine cN ?_|apply ax<;>intro _|apply aT<;>intro _|apply eK<;>intro _|apply cJ<;>intro _|refine aq ?_|refine ah ?_|refine ptr ?_)<;>conv=>whnf)
  all_goals first|(exfalso;omega)|exact⟨bad (by intro hx;have:=hx.1;have:=hx.2.1;omega),rfl⟩|skip
  refine aj (oL _ _ _ _ _) ?_;conv=>whnf
  apply aT<;>intro g3;all_goals conv=>whnf
  ·exact⟨bad (λhx=>g3 hx.2.2.1),rfl⟩
  refine aj (sD _ _ _ _ _ _ _ hcs ok (by omega) (by omega)) ?_;conv=>whnf
  apply cJ<;>intro g4;all_goals conv=>whnf
  ·exact⟨bad (λhx=>by rw[hx.2.2.2]at g4;cases g4),rfl⟩
  ·refine ah ?_;conv=>whnf
   refine dm (i+1) ⟨by omega,λj hj jj=>?_⟩ (by omega) rfl;rcases Nat.lt_succ_iff_lt_or_eq.1 jj with iu|rfl
   ·exact hg j hj iu
   ·exact⟨by omega,by omega,g3,g4⟩
 ·refine⟨(fk ⟨by omega,?_⟩).symm,rfl⟩;intro t ht;obtain⟨j,hj,rfl⟩:=List.mem_iff_getElem.1 ht;exact hg j hj (by omega)
theorem Cm (p q:Option Addr) (c d n k:Nat) (l r:List Int) (h:Heap) (h1:dy h (.slice p n c) l) (h2:dy h (.slice q k d) r) :
  Pure prog 140 [.slice p n c,.slice q k d] h (tf (l=r)):=by
 obtain⟨_,_,he,_,hl⟩:=h1.len;injection he with _ he _
 subst he;obtain⟨_,_,he,_,hr⟩:=h2.len;injection he with _ he _
 subst he;refine iC au func140 Wp Wq rfl ?_;conv=>whnf
 apply aT<;>intro g1;all_goals conv=>whnf
 ·exact⟨bY (λhx=>by subst hx;exact g1 rfl),rfl⟩
 have hlen:l.length=r.length:=by omega
 refine fh [0,1,12,13] [] (λi:Nat=>i<=l.length/\∀ j (hj:j < l.length),j < i->l[j]=r[j]) (λi=>l.length-i)
  (λi=>([.v (.slice p l.length c),.v (.slice q r.length d),.v (.int .i64 l.length),.v (.int .i64 i)],[],h)) 0 ⟨by omega,λl hl h=>by omega⟩ rfl ?_
 rintro i ⟨hi,hg⟩;conv=>whnf
 apply ax<;>intro g2;all_goals conv=>whnf
 ·have bV:i < l.length:=by omega
  have wD:i < r.length:=by omega
  have e1:=h1.get bV;have e2:=h2.get wD;obtain⟨b1,o1,vs1,q1,a1,a2,a3⟩:=e1;obtain⟨b2,o2,KS,q2,c1,c2,c3⟩:=e2;subst a2 c2;have r1:=aE a1 (i:=0) rfl;have r2:=aE c1 (i:=0) rfl;repeat' ((first|refine aq ?_|refine aG q1 ?_|refine aG q2 ?_|refine ld r1 ?_|refine ld r2 ?_)<;>conv=>whnf)
  apply aT<;>intro g3;all_goals conv=>whnf
  ·exact⟨bY (λhx=>by subst hx;exact g3 rfl),rfl⟩
  ·refine ah ?_;conv=>whnf
   refine dm (i+1) ⟨by omega,λj hj jj=>?_⟩ (by omega) rfl;rcases Nat.lt_succ_iff_lt_or_eq.1 jj with iu|rfl
   ·exact hg j hj iu
   ·exact g3
 ·refine⟨dZ ?_,rfl⟩;exact List.ext_getElem hlen (λj hj _=>hg j hj (by omega))
def rB (u:aO) (m n:cL):Prop:=0<=m.cls->0<=n.cls->m.fG=n.fG->m.cls≠n.cls/\(up u.J m.cls n.cls=true->m.out=n.out/\m.args=n.args)
def qc (u:aO):Prop:=∀ i j (hi:i < u.methods.length) (hj:j < u.methods.length),i≠j->rB u u.methods[i] u.methods[j]
theorem OB (us:List Value) (u:aO) (h:Heap) (hu:dG h us u) (ok:cI u.J) (hc:∀ m∈u.methods,-1<=m.cls/\m.cls < u.J.length) :
  Pure prog 75 [.agg ⟨us⟩] h (tf (qc u)):=by
 obtain⟨p,cc,q,d,rfl,hcs,fM,ji,hl2⟩:=hu.form;have no:¬qc u->.bool false=tf (qc u):=λhx=>(dD hx).symm;refine iC au func75 F75 abP rfl ?_;conv=>whnf
 refine fh [1,8,9,10] [1] (λi:Nat=>i<=u.methods.length/\∀ i' j (hi:i' < u.methods.length) (hj:j < u.methods.length),i' < i->i'≠j->rB u u.methods[i'] u.methods[j]) (λi=>u.methods.length-i)
  (λi=>([.l 1 0,.v (.slice q u.methods.length d),.v (.int .i64 u.methods.length),.v (.int .i64 i)],[some [.slice p u.J.length cc,.slice q u.methods.length d]],h)) 0 ⟨by omega,λ_ _ _ _ hx=>by omega⟩ rfl ?_
 rintro i ⟨hi,hg⟩;conv=>whnf
 apply ax<;>intro g2;all_goals conv=>whnf
 ·have tG:i < u.methods.length:=by omega
  have e:=fM.get tG;obtain⟨bb,off,vs,hq,e1,e2⟩:=e;have Fl:=hc _ (x_ tG);obtain⟨p1,c1,p2,c2,p3,c3,p4,c4,e3,h1,h2,h3,h4,h5,h6,h7,h8,b1,b2,b3,b4⟩:=e2.form;subst e3;refine aq ?_;conv=>whnf
  refine aG hq ?_;conv=>whnf
  refine dJ e1 ?_;conv=>whnf
  refine fh [1,3,4,8,9,10,16,17,18] [1,4] (λj:Nat=>j<=u.methods.length/\∀ j' (hj:j' < u.methods.length),j' < j->i≠j'->rB u u.methods[i] u.methods[j']) (λj=>u.methods.length-j)
   (λj=>([.l 1 0,.v (.int .i64 i),.l 4 0,.v (.slice q u.methods.length d),.v (.int .i64 u.methods.length),.v (.int .i64 i),.v (.slice q u.methods.length d),.v (.int .i64 u.methods.length),.v (.int .i64 j)],
    [some [.slice p u.J.length cc,.slice q u.methods.length d],some [.int .i64 u.methods[i].cls,.int .i64 u.methods[i].fG,.slice p1 u.methods[i].args.length c1,.int .i64 u.methods[i].out,.int .i64 u.methods[i].locals,.slice p2 u.methods[i].code.length c2,.slice p3 u.methods[i].aQ.length c3,.slice p4 u.methods[i].catches.length c4]],h)) 0 ⟨by omega,λ_ _ hx=>by omega⟩ rfl ?_
  rintro j ⟨hj,YJ⟩;conv=>whnf
  apply ax<;>intro g3;all_goals conv=>whnf
  ·have Nz:j < u.methods.length:=by omega
   have e:=fM.get Nz;obtain⟨bb',eJ,og,Cn,f1,f2⟩:=e;have hj1:=hc _ (x_ Nz);obtain⟨Ug,Qu,Uh,Qv,YK,OC,YL,YM,f3,k1,k2,k3,k4,k5,k6,k7,k8,d1,d2,d3,d4⟩:=f2.form;subst f3;have bad:i≠j->¬rB u u.methods[i] u.methods[j]->Value.bool false=tf (qc u):=λcH hx=>no (λhy=>hx (hy i j tG Nz cH));have go:(i≠j->rB u u.methods[i] u.methods[j])->∀ j' (hj:j' < u.methods.length),j' < j+1->i≠j'->rB u u.methods[i] u.methods[j']:=by
    intro hx j' KT jj cH;rcases Nat.lt_succ_iff_lt_or_eq.1 jj with iu|rfl
    ·exact YJ j' KT iu cH
    ·exact hx cH
   refine aq ?_;conv=>whnf
   refine aG Cn ?_;conv=>whnf
   refine dJ f1 ?_;conv=>whnf
   by_cases YN:(i:Int)=j\/u.methods[i].cls < 0\/u.methods[j].cls < 0\/u.methods[i].fG≠u.methods[j].fG
   ·repeat' ((first|refine cx ?_|refine bH ?_|refine dF ?_|refine cN ?_|apply ax<;>intro _|apply aT<;>intro _|apply eK<;>intro _|apply cJ<;>intro _|refine aq ?_|refine ah ?_|refine ptr ?_)<;>conv=>whnf)
    all_goals first
     | (exfalso;omega)
     | (refine dm (j+1) ⟨by omega,go (λcH k1 k2 k3=>by omega)⟩ (by omega) rfl)
   ·repeat' ((first|refine cx ?_|refine bH ?_|refine dF ?_|refine cN ?_|apply ax<;>intro _|apply aT<;>intro _|apply eK<;>intro _|apply cJ<;>intro _|refine aq ?_|refine ah ?_|refine ptr ?_)<;>conv=>whnf)
    all_goals first
     | (exfalso;omega)
     | exact⟨bad (by omega) (λhx=>(hx (by omega) (by omega) (by omega)).1 (by omega)),rfl⟩
     | skip
    refine aj (sD _ _ _ _ _ _ _ hcs ok (by omega) (by omega)) ?_;conv=>whnf
    apply eK<;>intro g4;all_goals conv=>whnf
    ·apply aT<;>intro g5;all_goals conv=>whnf
     ·exact⟨bad (by omega) (λhx=>g5 ((hx (by omega) (by omega) (by omega)).2 g4).1),rfl⟩
     ·refine aj (Cm _ _ _ _ _ _ _ _ h h5 k5) ?_;conv=>whnf
      apply aT<;>intro g6;all_goals conv=>whnf
      ·exact⟨bad (by omega) (λhx=>g6 ((hx (by omega) (by omega) (by omega)).2 g4).2),rfl⟩
      ·refine ah ?_;conv=>whnf
       refine dm (j+1) ⟨by omega,go (λcH k1 k2 k3=>⟨by omega,λ_=>⟨by omega,g6⟩⟩)⟩ (by omega) rfl
    ·refine ah ?_;conv=>whnf
     refine dm (j+1) ⟨by omega,go (λcH k1 k2 k3=>⟨by omega,λk4=>by rw[g4]at k4;cases k4⟩)⟩ (by omega) rfl
  ·refine ah ?_;conv=>whnf
   refine dm (i+1) ⟨by omega,λi' j xp hj hii cH=>?_⟩ (by omega) rfl;rcases Nat.lt_succ_iff_lt_or_eq.1 hii with iu|rfl
   ·exact hg i' j xp hj iu cH
   ·exact YJ j hj (by omega) cH
 ·exact⟨dZ (λi' j xp hj cH=>hg i' j xp hj (by omega) cH),rfl⟩
theorem aI {u:aO} {m:cL} {k a b p q:Int} (hw:tH k=some (p,q)):eU u m ⟨k,a,b⟩↔bz u m a p a/\bz u m a q b:=by
 constructor
 ·rintro⟨p',q',h1,h2⟩;simp only[hw,v_,Prod.mk.injEq]at h1;obtain⟨rfl,rfl⟩:=h1;exact h2
 ·rintro h;exact⟨p,q,hw,h⟩
theorem wE {k p q:Int} (hw:tH k=some (p,q)):(k,eX p q)∈ku:=by
 rcases F1 k with ⟨_,h⟩|⟨i,a,b,h,h2,_⟩
 ·rw[hw]at h;cases h
 ·rw[hw]at h2;cases h2;exact sF _ _ h
theorem eH {cs:List eD} (ok:cI cs) {c:Int} (hl:c < cs.length):(dw cs c).length<=8:=by
 have:=uV ok 4 c hl (by have:=ok.2.1;omega);omega
theorem yc (us ms:List Value) (u:aO) (m:cL) (x:ez) (h:Heap) (hu:dG h us u) (hm:eM h ms m) (ok:cI u.J) (hx:cY x.a/\cY x.b) (tG:0<=m.locals) :
  Pure prog 57 [.agg ⟨us⟩,.agg ⟨ms⟩,.agg #[.int .i64 x.kind,.int .i64 x.a,.int .i64 x.b]] h (tf (eU u m x)):=by
 obtain⟨p,cc,q,d,rfl,hcs,fM,ji,hl2⟩:=hu.form;obtain⟨p1,c1,p2,c2,p3,c3,p4,c4,rfl,h1,h2,h3,h4,h5,h6,h7,h8,b1,b2,b3,b4⟩:=hm.form;obtain⟨kind,a,b⟩:=x;simp only at hx ⊢;obtain⟨h40,h41⟩:=h4;refine Ol au func57 F57 abz rfl ?_;conv=>whnf
 refine ah ?_;conv=>whnf
 refine aj (dP _ _ _ _) ?_;conv=>whnf
 have rf:∀(K:Value->Heap->Prop) (E:List PanicEntry->Heap->Prop),(0<=a/\a < u.J.length)->(∀ p' c' h',h.le h'->h.le h'/\K (.slice p' (dw u.J a).length c') h')->iF prog 80 [.slice p u.J.length cc,.int .i64 a] h K E:=by
  intro K E ha hk;refine cX (jJ _ _ _ _ _ _ _ hcs ok ha.1 ha.2 (Nat.lt_succ_self _)) ?_;rintro v h' ⟨hle,B,ho,_⟩;have ff:=ho.form;obtain⟨p',c',rfl,pW⟩:=ff;have:=hk p' c' h' hle;simpa using this
 have bX:(0<=a/\a < u.methods.length)->∃ bb off,q=some ⟨bb,off,none⟩/\rd h bb (off+a.toNat*8)=some (.int .i64 (aV u a).cls):=by
  intro hb;have hi:a.toNat < u.methods.length:=by omega
  have e:=fM.get hi;obtain⟨bb,off,vs,hq,e1,e2⟩:=e;obtain⟨_,_,_,_,e3,_⟩:=e2;subst e3;have oE:aV u a=u.methods[a.toNat]:=gU hi (by omega);exact⟨bb,off,hq,by rw[oE];exact aE e1 (i:=0) rfl⟩
 have pI:a < u.J.length->(dw u.J a).length<=8:=λhx=>eH ok hx;cases hw:tH kind with
 | none =>
  have hk:kind≠1/\kind≠2/\kind≠3/\kind≠4/\kind≠5/\kind≠6/\kind≠7/\kind≠8/\kind≠9/\kind≠10/\kind≠11/\kind≠12/\kind≠13/\kind≠14/\kind≠15/\kind≠16/\kind≠17/\kind≠18/\kind≠19/\kind≠20/\kind≠21/\kind≠22/\kind≠23/\kind≠24:=by
   refine⟨?_,?_,?_,?_,?_,?_,?_,?_,?_,?_,?_,?_,?_,?_,?_,?_,?_,?_,?_,?_,?_,?_,?_,?_⟩<;>(rintro rfl;cases hw)
  repeat' ((first|refine cx ?_|refine bH ?_|refine dF ?_|refine cN ?_|apply ax<;>intro _|apply aT<;>intro _|apply eK<;>intro _|apply cJ<;>intro _|refine aq ?_|refine ah ?_|refine ptr ?_)<;>conv=>whnf)
  exact⟨bY (by rintro⟨_,_,hx,_⟩;rw[hw]at hx;cases hx),z_ h⟩
 | some w =>
  obtain⟨wa,wb⟩:=w;have hi:=aI (u:=u) (m:=m) (a:=a) (b:=b) hw;have ef:=wE hw;simp only[ku,eX,List.mem_cons,List.not_mem_nil,or_false,Prod.mk.injEq,Value.agg.injEq,Array.mk.injEq,List.cons.injEq,Value.int.injEq,true_and,and_true]at ef;rcases ef with ⟨rfl,rfl,rfl⟩|⟨rfl,rfl,rfl⟩|⟨rfl,rfl,rfl⟩|⟨rfl,rfl,rfl⟩|⟨rfl,rfl,rfl⟩|⟨rfl,rfl,rfl⟩|⟨rfl,rfl,rfl⟩|⟨rfl,rfl,rfl⟩|⟨rfl,rfl,rfl⟩|⟨rfl,rfl,rfl⟩|⟨rfl,rfl,rfl⟩|⟨rfl,rfl,rfl⟩|⟨rfl,rfl,rfl⟩|⟨rfl,rfl,rfl⟩|⟨rfl,rfl,rfl⟩|⟨rfl,rfl,rfl⟩|⟨rfl,rfl,rfl⟩|⟨rfl,rfl,rfl⟩|⟨rfl,rfl,rfl⟩|⟨rfl,rfl,rfl⟩|⟨rfl,rfl,rfl⟩|⟨rfl,rfl,rfl⟩|⟨rfl,rfl,rfl⟩|⟨rfl,rfl,rfl⟩;all_goals conv=>whnf
  rotate_left 19
  ·refine ah ?_;conv=>whnf
   refine aj (dP _ _ _ _) ?_;conv=>whnf
   apply ax<;>intro hb;all_goals conv=>whnf
   ·have bA:0<=a/\a < u.methods.length:=by omega
    have e:=bX bA;obtain⟨bb,off,hq,hr⟩:=e;repeat' ((first|apply ax<;>intro _|apply aT<;>intro _|apply eK<;>intro _|apply cJ<;>intro _|refine aG hq ?_|refine ld hr ?_|refine aq ?_|refine ah ?_|refine ptr ?_)<;>conv=>whnf)
    all_goals first
     | exact⟨gy (by rw[hi];simp[bz,isWord];omega),z_ _⟩
     | exact⟨bY (by rw[hi];simp[bz,isWord];omega),z_ _⟩
     | exact⟨dZ (by rw[hi];simp[bz,isWord];omega),z_ _⟩
     | skip
   ·exact⟨bY (by rw[hi];simp[bz,isWord];omega),z_ _⟩
  all_goals
   repeat' ((first|apply ax<;>intro _|apply aT<;>intro _|apply eK<;>intro _|apply cJ<;>intro _|refine aj (dP _ _ _ _) ?_|refine aj (rj _ _) ?_|refine aK (dP _ _ _ _) ?_|refine rf _ _ (by omega) (λp' c' h' hle=>⟨hle,?_⟩)|refine aq ?_|refine ah ?_|refine ptr ?_)<;>conv=>whnf)
   all_goals first
    | exact⟨gy (by rw[hi];simp[bz,isWord];omega),by first|exact z_ _|assumption⟩
    | exact⟨bY (by rw[hi];simp[bz,isWord];omega),by first|exact z_ _|assumption⟩
    | exact⟨dZ (by rw[hi];simp[bz,isWord];omega),by first|exact z_ _|assumption⟩
    | skip
theorem IM (us ms:List Value) (u:aO) (m:cL) (c:nK) (h:Heap) (hu:dG h us u) (hm:eM h ms m) (ok:cI u.J) (hx:cY c.lo/\cY c.hi/\cY c.to/\cY c.cls) :
  Pure prog 144 [.agg ⟨us⟩,.agg ⟨ms⟩,.agg #[.int .i64 c.lo,.int .i64 c.hi,.int .i64 c.to,.int .i64 c.cls]] h (tf (wC u m c)):=by
 obtain⟨p,cc,q,d,rfl,hcs,fM,ji,hl2⟩:=hu.form;obtain⟨p1,c1,p2,c2,p3,c3,p4,c4,rfl,h1,h2,h3,h4,h5,h6,h7,h8,b1,b2,b3,b4⟩:=hm.form;refine iC au func144 Wx Wy rfl ?_;conv=>whnf
 repeat' ((first|apply ax<;>intro _|apply aT<;>intro _|apply eK<;>intro _|apply cJ<;>intro _|refine aj (dP _ _ _ _) ?_|refine aj (tW _ _ _ _ _ _ _ hcs ok (by omega) (by omega) (by omega)) ?_|refine aq ?_|refine ah ?_|refine ptr ?_)<;>conv=>whnf)
 all_goals first
  | exact⟨bY (by unfold wC;omega),rfl⟩
  | skip
 all_goals refine⟨?_,rfl⟩
 all_goals first
  | (cases Ac:up u.J c.cls 1 with
   | true=>exact dZ ⟨by omega,by omega,by omega,Ac⟩
   | false=>exact bY (λhy=>by rw[hy.2.2.2]at Ac;cases Ac))
theorem KU (ms ns:List Value) (m n:cL) (h:Heap) (hm:eM h ms m) (hn:eM h ns n) :
  Pure prog 145 [.agg ⟨ms⟩,.agg ⟨ns⟩] h (tf (m.out=n.out/\m.args=n.args)):=by
 obtain⟨p1,c1,p2,c2,p3,c3,p4,c4,rfl,h1,h2,h3,h4,h5,h6,h7,h8,b1,b2,b3,b4⟩:=hm.form;obtain⟨Ug,Qu,Uh,Qv,YK,OC,YL,YM,rfl,k1,k2,k3,k4,k5,k6,k7,k8,d1,d2,d3,d4⟩:=hn.form;refine iC au func145 Wz WA rfl ?_;conv=>whnf
 apply aT<;>intro g1;all_goals conv=>whnf
 ·exact⟨bY (λhx=>g1 hx.1),rfl⟩
 apply aT<;>intro g2;all_goals conv=>whnf
 ·exact⟨bY (λhx=>g2 (by rw[hx.2])),rfl⟩
 have hlen:m.args.length=n.args.length:=by omega
 refine fh [2,3,5] [2,3] (λi:Nat=>i<=m.args.length/\∀ j (hj:j < m.args.length),j < i->m.args[j]=n.args[j]) (λi=>m.args.length-i)
  (λi=>([.l 2 0,.l 3 0,.v (.int .i64 i)],
   [some [.int .i64 m.cls,.int .i64 m.fG,.slice p1 m.args.length c1,.int .i64 m.out,.int .i64 m.locals,.slice p2 m.code.length c2,.slice p3 m.aQ.length c3,.slice p4 m.catches.length c4],some [.int .i64 n.cls,.int .i64 n.fG,.slice Ug n.args.length Qu,.int .i64 n.out,.int .i64 n.locals,.slice Uh n.code.length Qv,.slice YK n.aQ.length OC,.slice YL n.catches.length YM]],h)) 0 ⟨by omega,λl hl h=>by omega⟩ rfl ?_
 rintro i ⟨hi,hg⟩;conv=>whnf
 apply ax<;>intro g3;all_goals conv=>whnf
 ·have bV:i < m.args.length:=by omega
  have wD:i < n.args.length:=by omega
  have e1:=h5.get bV;have e2:=k5.get wD;obtain⟨b1',o1,vs1,q1,a1,a2,a3⟩:=e1;obtain⟨b2',o2,KS,q2,f1,f2,f3⟩:=e2;subst a2 f2;have r1:=aE a1 (i:=0) rfl;have r2:=aE f1 (i:=0) rfl;repeat' ((first|refine aq ?_|refine aG q1 ?_|refine aG q2 ?_|refine ld r1 ?_|refine ld r2 ?_)<;>conv=>whnf)
  apply aT<;>intro g4;all_goals conv=>whnf
  ·refine⟨bY (λhx=>g4 ?_),rfl⟩;simp[hx.2]
  ·refine ah ?_;conv=>whnf
   refine dm (i+1) ⟨by omega,λj hj jj=>?_⟩ (by omega) rfl;rcases Nat.lt_succ_iff_lt_or_eq.1 jj with iu|rfl
   ·exact hg j hj iu
   ·exact g4
 ·refine⟨dZ ⟨g1,?_⟩,rfl⟩;exact List.ext_getElem hlen (λj hj _=>hg j hj (by omega))
def nP (u:aO) (m:cL):Prop:=fQ u.J.length m/\AO u m/\oM u m
theorem F2 (us ms:List Value) (u:aO) (m:cL) (h:Heap) (hu:dG h us u) (hm:eM h ms m) (ok:cI u.J) :
  Pure prog 77 [.agg ⟨us⟩,.agg ⟨ms⟩] h (tf (nP u m)):=by
 have iw:=hu;have JU:=hm;obtain⟨p,cc,q,d,rfl,hcs,fM,ji,hl2⟩:=hu.form;obtain⟨p1,c1,p2,c2,p3,c3,p4,c4,rfl,h1,h2,h3,h4,h5,h6,h7,h8,b1,b2,b3,b4⟩:=hm.form;have no:¬nP u m->.bool false=tf (nP u m):=λhx=>(dD hx).symm;refine iC au func77 F77 abR rfl ?_;conv=>whnf
 refine aj (KP _ _ u m h iw JU) ?_;conv=>whnf
 apply aT<;>intro g1;all_goals conv=>whnf
 ·exact⟨no (λhx=>g1 hx.1),rfl⟩
 refine aj (dP _ _ _ _) ?_;conv=>whnf
 apply aT<;>intro g2;all_goals conv=>whnf
 ·exact⟨no (λhx=>by have:=hx.2.1.1;have:=hx.2.1.2.1;omega),rfl⟩
 apply aT<;>intro g3;all_goals conv=>whnf
 ·exact⟨no (λhx=>by have:=hx.2.1.2.2.1;omega),rfl⟩
 apply ax<;>intro g4;all_goals conv=>whnf
 ·exact⟨no (λhx=>by have:=hx.2.2.1;omega),rfl⟩
 have mX:0<=m.locals:=by have:=g1.2.2.2.2.2;omega
 refine fh [2,3,5] [2,3] (λi:Nat=>i<=m.code.length/\∀ j (hj:j < m.code.length) (KT:j < m.aQ.length),j < i->eU u m m.code[j]/\wB u.J.length m.locals m.aQ[j]) (λi=>m.code.length-i)
  (λi=>([.l 2 0,.l 3 0,.v (.int .i64 i)],
   [some [.slice p u.J.length cc,.slice q u.methods.length d],some [.int .i64 m.cls,.int .i64 m.fG,.slice p1 m.args.length c1,.int .i64 m.out,.int .i64 m.locals,.slice p2 m.code.length c2,.slice p3 m.aQ.length c3,.slice p4 m.catches.length c4]],h)) 0 ⟨by omega,λl hl _ h=>by omega⟩ rfl ?_
 rintro i ⟨hi,hg⟩;conv=>whnf
 apply ax<;>intro g5;all_goals conv=>whnf
 ·have bV:i < m.code.length:=by omega
  have wD:i < m.aQ.length:=by omega
  have e:=h6.get bV;obtain⟨bb,off,vs,hq,e1,e2,e3,e4,e5⟩:=e;subst e2;have f:=h7.get wD;obtain⟨bb',eJ,og,Cn,f1,l,k,f2,f3,f4⟩:=f;subst f2;obtain⟨p5,c5,rfl,_,_⟩:=f3.len;obtain⟨p6,c6,rfl,_,_⟩:=f4.len;refine aq ?_;conv=>whnf
  refine aG hq ?_;conv=>whnf
  refine dJ e1 ?_;conv=>whnf
  refine aK (yc _ _ u m _ h iw JU ok ⟨e4,e5⟩ mX) ?_;conv=>whnf
  apply aT<;>intro g6;all_goals conv=>whnf
  ·exact⟨no (λhx=>g6 (hx.2.1.2.2.2.1 _ (x_ _))),rfl⟩
  refine aq ?_;conv=>whnf
  refine aG Cn ?_;conv=>whnf
  refine dJ f1 ?_;conv=>whnf
  refine aK (F0 _ _ _ _ _ _ _ _ h hcs f3 f4) ?_;conv=>whnf
  apply aT<;>intro g7;all_goals conv=>whnf
  ·exact⟨no (λhx=>g7 ⟨ok,hx.2.1.2.2.2.2 _ (x_ _)⟩),rfl⟩
  ·refine ah ?_;conv=>whnf
   refine dm (i+1) ⟨by omega,λj hj KT jj=>?_⟩ (by omega) rfl;rcases Nat.lt_succ_iff_lt_or_eq.1 jj with iu|rfl
   ·exact hg j hj KT iu
   ·exact⟨g6,g7.2⟩
 ·have hA:∀ x∈m.code,eU u m x:=by
   intro t ht;obtain⟨j,hj,rfl⟩:=List.mem_iff_getElem.1 ht;exact(hg j hj (by omega) (by omega)).1
  have hB:∀ s∈m.aQ,wB u.J.length m.locals s:=by
   intro t ht;obtain⟨j,hj,rfl⟩:=List.mem_iff_getElem.1 ht;exact(hg j (by omega) hj (by omega)).2
  have hC:AO u m:=⟨by omega,by omega,by omega,hA,hB⟩
  refine fh [2,3,6] [2,3] (λi:Nat=>i<=m.catches.length/\∀ j (hj:j < m.catches.length),j < i->wC u m m.catches[j]) (λi=>m.catches.length-i)
   (λi=>([.l 2 0,.l 3 0,.v (.int .i64 i)],
    [some [.slice p u.J.length cc,.slice q u.methods.length d],some [.int .i64 m.cls,.int .i64 m.fG,.slice p1 m.args.length c1,.int .i64 m.out,.int .i64 m.locals,.slice p2 m.code.length c2,.slice p3 m.aQ.length c3,.slice p4 m.catches.length c4]],h)) 0 ⟨by omega,λl hl h=>by omega⟩ rfl ?_
  rintro i ⟨hi,hg⟩;conv=>whnf
  apply ax<;>intro g6;all_goals conv=>whnf
  ·have bV:i < m.catches.length:=by omega
   have e:=h8.get bV;obtain⟨bb,off,vs,hq,e1,e2,e3⟩:=e;subst e2;refine aq ?_;conv=>whnf
   refine aG hq ?_;conv=>whnf
   refine dJ e1 ?_;conv=>whnf
   refine aK (IM _ _ u m _ h iw JU ok e3) ?_;conv=>whnf
   apply aT<;>intro g7;all_goals conv=>whnf
   ·exact⟨no (λhx=>g7 (hx.2.2.2 _ (x_ _))),rfl⟩
   ·refine ah ?_;conv=>whnf
    refine dm (i+1) ⟨by omega,λj hj jj=>?_⟩ (by omega) rfl;rcases Nat.lt_succ_iff_lt_or_eq.1 jj with iu|rfl
    ·exact hg j hj iu
    ·exact g7
  ·refine⟨dZ ⟨g1,hC,by omega,?_⟩,rfl⟩;intro t ht;obtain⟨j,hj,rfl⟩:=List.mem_iff_getElem.1 ht;exact hg j hj (by omega)
theorem uW {cs:List eD} (ok:cI cs) {a:Int} (h0:0<=a) (h1:a < cs.length):up cs a a=true:=by
 rw[iT ok h0 h1];simp
theorem IN (us:List Value) (u:aO) (h:Heap) (hu:dG h us u) (ok:cI u.J) (hc:∀ m∈u.methods,-1<=m.cls/\m.cls < u.J.length) :
  Pure prog 78 [.agg ⟨us⟩] h (tf (qc u)):=by
 obtain⟨p,cc,q,d,rfl,hcs,fM,ji,hl2⟩:=hu.form;have no:¬qc u->.bool false=tf (qc u):=λhx=>(dD hx).symm;refine iC au func78 F78 abS rfl ?_;conv=>whnf
 refine fh [1,3] [1] (λi:Nat=>i<=u.methods.length/\∀ i' j (hi:i' < u.methods.length) (hj:j < u.methods.length),i' < i->i'≠j->rB u u.methods[i'] u.methods[j]) (λi=>u.methods.length-i)
  (λi=>([.l 1 0,.v (.int .i64 i)],[some [.slice p u.J.length cc,.slice q u.methods.length d]],h)) 0 ⟨by omega,λ_ _ _ _ hx=>by omega⟩ rfl ?_
 rintro i ⟨hi,hg⟩;conv=>whnf
 apply ax<;>intro g2;all_goals conv=>whnf
 ·have tG:i < u.methods.length:=by omega
  have e:=fM.get tG;obtain⟨bb,off,vs,hq,e1,e2⟩:=e;have Fl:=hc _ (x_ tG);have KV:=e2;obtain⟨p1,c1,p2,c2,p3,c3,p4,c4,e3,h1,h2,h3,h4,h5,h6,h7,h8,b1,b2,b3,b4⟩:=e2.form;subst e3;refine fh [1,3,4] [1] (λj:Nat=>j<=u.methods.length/\∀ j' (hj:j' < u.methods.length),j' < j->i≠j'->rB u u.methods[i] u.methods[j']) (λj=>u.methods.length-j)
   (λj=>([.l 1 0,.v (.int .i64 i),.v (.int .i64 j)],
    [some [.slice p u.J.length cc,.slice q u.methods.length d]],h)) 0 ⟨by omega,λ_ _ hx=>by omega⟩ rfl ?_
  rintro j ⟨hj,YJ⟩;conv=>whnf
  apply ax<;>intro g3;all_goals conv=>whnf
  ·have Nz:j < u.methods.length:=by omega
   have e:=fM.get Nz;obtain⟨bb',eJ,og,Cn,f1,f2⟩:=e;have hj1:=hc _ (x_ Nz);have f20:=f2;obtain⟨Ug,Qu,Uh,Qv,YK,OC,YL,YM,f3,k1,k2,k3,k4,k5,k6,k7,k8,d1,d2,d3,d4⟩:=f2.form;subst f3;have bad:i≠j->¬rB u u.methods[i] u.methods[j]->Value.bool false=tf (qc u):=λcH hx=>no (λhy=>hx (hy i j tG Nz cH));have go:(i≠j->rB u u.methods[i] u.methods[j])->∀ j' (hj:j' < u.methods.length),j' < j+1->i≠j'->rB u u.methods[i] u.methods[j']:=by
    intro hx j' KT jj cH;rcases Nat.lt_succ_iff_lt_or_eq.1 jj with iu|rfl
    ·exact YJ j' KT iu cH
    ·exact hx cH
   refine aq ?_;conv=>whnf
   refine aG hq ?_;conv=>whnf
   refine dJ e1 ?_;conv=>whnf
   refine aq ?_;conv=>whnf
   refine aG Cn ?_;conv=>whnf
   refine dJ f1 ?_;conv=>whnf
   by_cases YN:(i:Int)=j\/u.methods[i].cls < 0\/u.methods[j].cls < 0\/u.methods[i].fG≠u.methods[j].fG
   ·repeat' ((first|refine cx ?_|refine bH ?_|refine dF ?_|refine cN ?_|apply ax<;>intro _|apply aT<;>intro _|apply eK<;>intro _|apply cJ<;>intro _|refine aq ?_|refine ah ?_|refine ptr ?_)<;>conv=>whnf)
    all_goals first
     | (exfalso;omega)
     | (refine dm (j+1) ⟨by omega,go (λcH k1 k2 k3=>by omega)⟩ (by omega) rfl)
   ·repeat' ((first|refine cx ?_|refine bH ?_|refine dF ?_|refine cN ?_|apply ax<;>intro _|apply aT<;>intro _|apply eK<;>intro _|apply cJ<;>intro _|refine aq ?_|refine ah ?_|refine ptr ?_)<;>conv=>whnf)
    refine aj (tW _ _ _ _ _ _ _ hcs ok (by omega) (by omega) (by omega)) ?_;conv=>whnf
    apply eK<;>intro g4;all_goals conv=>whnf
    ·apply ax<;>intro g5;all_goals conv=>whnf
     ·exact⟨bad (by omega) (λhx=>(hx (by omega) (by omega) (by omega)).1 g5),rfl⟩
     ·refine aj (KU _ _ _ _ h KV f20) ?_;conv=>whnf
      apply aT<;>intro g6;all_goals conv=>whnf
      ·exact⟨bad (by omega) (λhx=>g6 ((hx (by omega) (by omega) (by omega)).2 g4)),rfl⟩
      ·refine ah ?_;conv=>whnf
       refine dm (j+1) ⟨by omega,go (λcH k1 k2 k3=>⟨g5,λ_=>g6⟩)⟩ (by omega) rfl
    ·refine ah ?_;conv=>whnf
     refine dm (j+1) ⟨by omega,go (λcH k1 k2 k3=>⟨λhy=>?_,λk4=>by rw[g4]at k4;cases k4⟩)⟩ (by omega) rfl;rw[hy,uW ok (by omega) (by omega)]at g4;cases g4
  ·refine ah ?_;conv=>whnf
   refine dm (i+1) ⟨by omega,λi' j xp hj hii cH=>?_⟩ (by omega) rfl;rcases Nat.lt_succ_iff_lt_or_eq.1 hii with iu|rfl
   ·exact hg i' j xp hj iu cH
   ·exact YJ j hj (by omega) cH
 ·exact⟨dZ (λi' j xp hj cH=>hg i' j xp hj (by omega) cH),rfl⟩
def cz (u:aO):Prop:=cI u.J/\(1<=u.methods.length/\u.methods.length<=4)/\((aV u 0).cls = -1/\(aV u 0).args=[]/\(aV u 0).out=1)/\(∀ m∈u.methods,nP u m)/\qc u
theorem nP.cls {u:aO} {m:cL} (hm:nP u m) : -1<=m.cls/\m.cls < u.J.length:=by
 have:=hm.1.1;omega
theorem wF (us:List Value) (u:aO) (h:Heap) (hu:dG h us u):Pure prog 41 [.agg ⟨us⟩] h (tf (cz u)):=by
 have iw:=hu;obtain⟨p,cc,q,d,rfl,hcs,fM,ji,hl2⟩:=hu.form;have no:¬cz u->.bool false=tf (cz u):=λhx=>(dD hx).symm;refine iC au func41 F41 abl rfl ?_;conv=>whnf
 refine aj (qb _ _ _ _ h hcs) ?_;conv=>whnf
 apply aT<;>intro ok;all_goals conv=>whnf
 ·exact⟨no (λhx=>ok hx.1),rfl⟩
 refine aj (dP _ _ _ _) ?_;conv=>whnf
 apply aT<;>intro g2;all_goals conv=>whnf
 ·exact⟨no (λhx=>by have:=hx.2.1;omega),rfl⟩
 have h0:0 < u.methods.length:=by omega
 have oE:aV u 0=u.methods[0]:=gU h0 rfl;have e:=fM.get h0;obtain⟨bb,off,vs,hq,e1,e2⟩:=e;obtain⟨p1,c1,p2,c2,p3,c3,p4,c4,e3,h1,h2,h3,h4,h5,h6,h7,h8,b1,b2,b3,b4⟩:=e2.form;subst e3;refine aq ?_;conv=>whnf
 refine aG hq ?_;conv=>whnf
 refine ld (aE e1 (i:=0) rfl) ?_;conv=>whnf
 apply aT<;>intro g3;all_goals conv=>whnf
 ·exact⟨no (λhx=>g3 (by rw[<-oE];exact hx.2.2.1.1)),rfl⟩
 refine aq ?_;conv=>whnf
 refine aG hq ?_;conv=>whnf
 refine ld (aE e1 (i:=2) rfl) ?_;conv=>whnf
 apply ax<;>intro g4;all_goals conv=>whnf
 ·exact⟨no (λhx=>by have:=hx.2.2.1.2.1;rw[oE]at this;rw[this]at g4;simp at g4),rfl⟩
 refine aq ?_;conv=>whnf
 refine aG hq ?_;conv=>whnf
 refine ld (aE e1 (i:=3) rfl) ?_;conv=>whnf
 apply aT<;>intro g5;all_goals conv=>whnf
 ·exact⟨no (λhx=>g5 (by rw[<-oE];exact hx.2.2.1.2.2)),rfl⟩
 refine fh [1,3] [1] (λi:Nat=>i<=u.methods.length/\∀ j (hj:j < u.methods.length),j < i->nP u u.methods[j]) (λi=>u.methods.length-i)
  (λi=>([.l 1 0,.v (.int .i64 i)],[some [.slice p u.J.length cc,.slice q u.methods.length d]],h)) 0 ⟨by omega,λ_ _ hx=>by omega⟩ rfl ?_
 rintro i ⟨hi,hg⟩;conv=>whnf
 apply ax<;>intro g6;all_goals conv=>whnf
 ·have bV:i < u.methods.length:=by omega
  have f:=fM.get bV;obtain⟨bb',eJ,og,Cn,f1,f2⟩:=f;have f20:=f2;obtain⟨Ug,Qu,Uh,Qv,YK,OC,YL,YM,f3,_⟩:=f2.form;subst f3;refine aq ?_;conv=>whnf
  refine aG Cn ?_;conv=>whnf
  refine dJ f1 ?_;conv=>whnf
  refine aK (F2 _ _ u _ h iw f20 ok) ?_;conv=>whnf
  apply aT<;>intro g7;all_goals conv=>whnf
  ·exact⟨no (λhx=>g7 (hx.2.2.2.1 _ (x_ _))),rfl⟩
  ·refine ah ?_;conv=>whnf
   refine dm (i+1) ⟨by omega,λj hj jj=>?_⟩ (by omega) rfl;rcases Nat.lt_succ_iff_lt_or_eq.1 jj with iu|rfl
   ·exact hg j hj iu
   ·exact g7
 ·have hA:∀ m∈u.methods,nP u m:=by
   intro t ht;obtain⟨j,hj,rfl⟩:=List.mem_iff_getElem.1 ht;exact hg j hj (by omega)
  refine aj (IN _ u h iw ok (λm hm=>(hA m hm).cls)) ?_;conv=>whnf
  have hargs:u.methods[0].args=[]:=List.eq_nil_of_length_eq_zero (by omega);exact⟨gy ⟨λhx=>hx.2.2.2.2,λhx=>⟨ok,by omega,by rw[oE];exact⟨g3,hargs,g5⟩,hA,hx⟩⟩,rfl⟩
theorem KW (us:List Value) (u:aO) (h:Heap) (hu:dG h us u):Pure prog 38 [.agg ⟨us⟩] h (tf (cz u)):=by
 have iw:=hu;obtain⟨p,cc,q,d,rfl,hcs,fM,ji,hl2⟩:=hu.form;have no:¬cz u->.bool false=tf (cz u):=λhx=>(dD hx).symm;refine Ol au func38 F38 abi rfl ?_;conv=>whnf
 refine aj (DX _ _ _ _ h hcs) ?_;conv=>whnf
 apply aT<;>intro ok;all_goals conv=>whnf
 ·exact⟨no (λhx=>ok hx.1),z_ h⟩
 apply ax<;>intro g2;all_goals conv=>whnf
 ·exact⟨no (λhx=>by have:=hx.2.1;omega),z_ h⟩
 refine ax (λAs=>?_) (λAs=>?_);all_goals conv=>whnf
 ·exact⟨no (λhx=>by have:=hx.2.1;omega),z_ h⟩
 have h0:0 < u.methods.length:=by omega
 have oE:aV u 0=u.methods[0]:=gU h0 rfl;have e:=fM.get h0;obtain⟨bb,off,vs,hq,e1,e2⟩:=e;obtain⟨p1,c1,p2,c2,p3,c3,p4,c4,e3,h1,h2,h3,h4,h5,h6,h7,h8,b1,b2,b3,b4⟩:=e2.form;subst e3;refine aq ?_;conv=>whnf
 refine aG hq ?_;conv=>whnf
 refine dJ e1 ?_;conv=>whnf
 apply aT<;>intro g3;all_goals conv=>whnf
 ·exact⟨no (λhx=>g3 (by rw[<-oE];exact hx.2.2.1.1)),z_ h⟩
 apply aT<;>intro g4;all_goals conv=>whnf
 ·exact⟨no (λhx=>by have:=hx.2.2.1.2.1;rw[oE]at this;rw[this]at g4;simp at g4),z_ h⟩
 apply aT<;>intro g5;all_goals conv=>whnf
 ·exact⟨no (λhx=>g5 (by rw[<-oE];exact hx.2.2.1.2.2)),z_ h⟩
 refine aC (OA h) ?_;rintro v h' ⟨b,rfl,hb,rfl⟩;conv=>whnf
 have hle:h.le (h.set b (qK ku)):=Heap.aP (z_ h) hb;have bA:(h.set b (qK ku)) b=some (qK ku):=by simp[Heap.set]
 generalize h.set b (qK ku)=F3 at hle bA ⊢;have D6:=iw.le hle;have KX:Row 8 eM F3 (.slice q u.methods.length d) u.methods:=fM.le hle (λ_ _ hx=>hx.le hle);refine fh [1,4,43,44,45] [1] (λi:Nat=>i<=u.methods.length/\∀ j (hj:j < u.methods.length),j < i->nP u u.methods[j]) (λi=>u.methods.length-i)
  (λi=>([.l 1 0,.v (.map (some b)),.v (.slice q u.methods.length d),.v (.int .i64 u.methods.length),.v (.int .i64 i)],[some [.slice p u.J.length cc,.slice q u.methods.length d]],F3)) 0 ⟨by omega,λ_ _ hx=>by omega⟩ rfl ?_
 rintro i ⟨hi,hg⟩;conv=>whnf
 apply ax<;>intro g6;all_goals conv=>whnf
 ·have bV:i < u.methods.length:=by omega
  have f:=KX.get bV;obtain⟨bb',eJ,og,Cn,f1,f2⟩:=f;have f20:=f2;obtain⟨Ug,Qu,Uh,Qv,YK,OC,YL,YM,f3,_⟩:=f2.form;subst f3;refine aq ?_;conv=>whnf
  refine aG Cn ?_;conv=>whnf
  refine dJ f1 ?_;conv=>whnf
  refine aj (KO _ _ u _ F3 D6 f20) ?_;conv=>whnf
  apply aT<;>intro g7;all_goals conv=>whnf
  ·exact⟨no (λhx=>g7 (hx.2.2.2.1 _ (x_ _)).1),hle⟩
  refine aj (KR _ _ u _ b F3 D6 f20 ok bA) ?_;conv=>whnf
  apply aT<;>intro g8;all_goals conv=>whnf
  ·exact⟨no (λhx=>g8 (hx.2.2.2.1 _ (x_ _)).2.1),hle⟩
  refine aj (D5 _ _ u _ F3 D6 f20 ok) ?_;conv=>whnf
  apply aT<;>intro g9;all_goals conv=>whnf
  ·exact⟨no (λhx=>g9 (hx.2.2.2.1 _ (x_ _)).2.2),hle⟩
  ·refine ah ?_;conv=>whnf
   refine dm (i+1) ⟨by omega,λj hj jj=>?_⟩ (by omega) rfl;rcases Nat.lt_succ_iff_lt_or_eq.1 jj with iu|rfl
   ·exact hg j hj iu
   ·exact⟨g7,g8,g9⟩
 ·have hA:∀ m∈u.methods,nP u m:=by
   intro t ht;obtain⟨j,hj,rfl⟩:=List.mem_iff_getElem.1 ht;exact hg j hj (by omega)
  refine aj (OB _ u F3 D6 ok (λm hm=>(hA m hm).cls)) ?_;conv=>whnf
  have hargs:u.methods[0].args=[]:=List.eq_nil_of_length_eq_zero (by omega);exact⟨gy ⟨λhx=>hx.2.2.2.2,λhx=>⟨ok,by omega,by rw[oE];exact⟨g3,hargs,g5⟩,hA,hx⟩⟩,hle⟩
def jK (c s:Int):List cL->Int->Int
 | [],_=>-1
 | m::r,i=>if m.cls=c/\m.fG=s then i else jK c s r (i+1)
def mb (u:aO) (s:Int):Nat->Int->Int
 | 0,_=>-1
 | k+1,c=>if 0<=c then (if 0<=jK c s u.methods 0 then jK c s u.methods 0 else mb u s k (bG u.J c))else -1
def find (u:aO) (c s:Int):Int:=mb u s (c.toNat+1) c
theorem oN {u:aO} {s:Int} (k:Nat) {c:Int} (h:c < 0):mb u s k c = -1:=by
 cases k with
 | zero=>rfl
 | succ k=>rw[mb,if_neg (by omega)]
theorem oO {u:aO} {c s:Int} (h:c < 0):find u c s = -1:=oN _ h
theorem wG {u:aO} (ok:cI u.J) (s:Int):∀(k:Nat) (c:Int),c < u.J.length->c.toNat < k->mb u s k c=find u c s
 | 0,c,_,h=>by omega
 | k+1,c,hl,h=>by
  by_cases h0:0<=c
  ·have hs:=ok.bU h0 hl;unfold find;rw[mb,mb];simp only[h0,if_true];split
   ·rfl
   ·by_cases h1:0<=bG u.J c
    ·rw[wG ok s k _ (by omega) (by omega)];rw[<-wG ok s c.toNat _ (by omega) (by omega)]
    ·rw[oN _ (by omega),oN _ (by omega)]
  ·rw[oN _ (by omega),oO (by omega)]
theorem uX {u:aO} {c s:Int} (h0:0<=c) (h:0<=jK c s u.methods 0):find u c s=jK c s u.methods 0:=by
 unfold find;rw[mb];simp[h0,h]
theorem yd {u:aO} (ok:cI u.J) {c s:Int} (h0:0<=c) (hl:c < u.J.length) (h:jK c s u.methods 0 < 0):find u c s=find u (bG u.J c) s:=by
 have hs:=ok.bU h0 hl;conv=>lhs;unfold find
 rw[mb];simp only[h0,if_true,show ¬0<=jK c s u.methods 0 by omega,if_false];by_cases h1:0<=bG u.J c
 ·exact wG ok s _ _ (by omega) (by omega)
 ·rw[oN _ (by omega),oO (by omega)]
theorem wH {c s:Int}:∀(l:List cL) (i:Nat) (k:Int),(∀ j (hj:j < l.length),j < i->¬(l[j].cls=c/\l[j].fG=s))->jK c s l k=jK c s (l.drop i) (k+i)
 | l,0,k,_=>by simp
 | [],i+1,k,_=>by simp[jK]
 | m::r,i+1,k,h=>by
  have h0:=h 0 (by simp) (by omega);simp only[List.getElem_cons_zero]at h0;rw[jK,if_neg h0];rw[wH r i (k+1) (λj hj jj=>by have:=h (j+1) (by simpa using hj) (by omega);simpa using this)];simp only[List.drop_succ_cons];congr 1
  omega
theorem HG {c s:Int} {l:List cL} {i:Nat} (hi:i < l.length) (hn:∀ j (hj:j < l.length),j < i->¬(l[j].cls=c/\l[j].fG=s)) (h:l[i].cls=c/\l[i].fG=s):jK c s l 0=i:=by
 rw[wH l i 0 hn,List.drop_eq_getElem_cons hi,jK,if_pos h];omega
theorem AP {c s:Int} {l:List cL} (hn:∀ j (hj:j < l.length),¬(l[j].cls=c/\l[j].fG=s)):jK c s l 0 = -1:=by
 rw[wH l l.length 0 (λj hj _=>hn j hj)];simp[jK]
theorem yQ (us:List Value) (u:aO) (c s:Int) (h:Heap) (hu:dG h us u) (ok:cI u.J) (h0 : -1<=c) (hl:c < u.J.length) :
  Pure prog 40 [.agg ⟨us⟩,.int .i64 c,.int .i64 s] h (.int .i64 (find u c s)):=by
 obtain⟨p,cc,q,d,rfl,hcs,fM,ji,hl2⟩:=hu.form;refine iC au func40 F40 abk rfl ?_;conv=>whnf
 refine fh [2,3,7] [3] (λx:Int=>-1<=x/\x < u.J.length/\find u x s=find u c s) (λx=>(x+1).toNat)
  (λx=>([.v (.int .i64 s),.l 3 0,.v (.int .i64 x)],[some [.slice p u.J.length cc,.slice q u.methods.length d]],h)) c ⟨h0,hl,rfl⟩ rfl ?_
 rintro x ⟨x0,x1,x2⟩;conv=>whnf
 apply ax<;>intro g1;all_goals conv=>whnf
 ·refine fh [2,3,7,20,21,22] [3] (λi:Nat=>i<=u.methods.length/\∀ j (hj:j < u.methods.length),j < i->¬(u.methods[j].cls=x/\u.methods[j].fG=s)) (λi=>u.methods.length-i)
   (λi=>([.v (.int .i64 s),.l 3 0,.v (.int .i64 x),.v (.slice q u.methods.length d),.v (.int .i64 u.methods.length),.v (.int .i64 i)],[some [.slice p u.J.length cc,.slice q u.methods.length d]],h)) 0 ⟨by omega,λ_ _ hx=>by omega⟩ rfl ?_
  rintro i ⟨hi,hg⟩;conv=>whnf
  apply ax<;>intro g2;all_goals conv=>whnf
  ·have tG:i < u.methods.length:=by omega
   have e:=fM.get tG;obtain⟨bb,off,vs,hq,e1,e2⟩:=e;obtain⟨p1,c1,p2,c2,p3,c3,p4,c4,e3,_⟩:=e2.form;subst e3;have go:¬(u.methods[i].cls=x/\u.methods[i].fG=s)->∀ j (hj:j < u.methods.length),j < i+1->¬(u.methods[j].cls=x/\u.methods[j].fG=s):=by
    intro hx j hj jj;rcases Nat.lt_succ_iff_lt_or_eq.1 jj with iu|rfl
    ·exact hg j hj iu
    ·exact hx
   refine aq ?_;conv=>whnf
   refine aG hq ?_;conv=>whnf
   refine dJ e1 ?_;conv=>whnf
   apply ax<;>intro g3;all_goals conv=>whnf
   ·apply ax<;>intro g4;all_goals conv=>whnf
    ·have ho:=HG tG hg ⟨g3,g4⟩;exact⟨by rw[<-x2,uX g1 (by omega),ho],rfl⟩
    ·refine ah ?_;conv=>whnf
     refine dm (i+1) ⟨by omega,go (λhx=>g4 hx.2)⟩ (by omega) rfl
   ·refine ah ?_;conv=>whnf
    refine dm (i+1) ⟨by omega,go (λhx=>g3 hx.1)⟩ (by omega) rfl
  ·have ho:jK x s u.methods 0 = -1:=AP (λj hj=>hg j hj (by omega));have tI:x.toNat < u.J.length:=by omega
   have e:=hcs.at tI;obtain⟨bb,off,q',k',d',hp,_,e2,_,_,_,_⟩:=e;have hs:=ok.bU g1 x1;have DZ:bG u.J x=u.J[x.toNat].bU:=by simp[bG,tI]
   refine aq ?_;conv=>whnf
   refine aG hp ?_;conv=>whnf
   refine ld e2 ?_;conv=>whnf
   refine dm (u.J[x.toNat].bU) ⟨by omega,by omega,?_⟩ (by omega) rfl;rw[<-x2,yd ok g1 x1 (by omega),DZ]
 ·exact⟨by rw[<-x2,oO (by omega)],rfl⟩
theorem rC (us:List Value) (u:aO) (c s:Int) (h:Heap) (hu:dG h us u) (ok:cI u.J) (h0 : -1<=c) (hl:c < u.J.length) :
  Pure prog 162 [.agg ⟨us⟩,.int .i64 c,.int .i64 s] h (.int .i64 (find u c s)):=by
 obtain⟨p,cc,q,d,rfl,hcs,fM,ji,hl2⟩:=hu.form;refine iC au func162 W3 W4 rfl ?_;conv=>whnf
 refine fh [1,2,3] [3] (λx:Int=>-1<=x/\x < u.J.length/\find u x s=find u c s) (λx=>(x+1).toNat)
  (λx=>([.v (.int .i64 x),.v (.int .i64 s),.l 3 0],[some [.slice p u.J.length cc,.slice q u.methods.length d]],h)) c ⟨h0,hl,rfl⟩ rfl ?_
 rintro x ⟨x0,x1,x2⟩;conv=>whnf
 apply ax<;>intro g1;all_goals conv=>whnf
 ·refine fh [1,2,3,7] [3] (λi:Nat=>i<=u.methods.length/\∀ j (hj:j < u.methods.length),j < i->¬(u.methods[j].cls=x/\u.methods[j].fG=s)) (λi=>u.methods.length-i)
   (λi=>([.v (.int .i64 x),.v (.int .i64 s),.l 3 0,.v (.int .i64 i)],[some [.slice p u.J.length cc,.slice q u.methods.length d]],h)) 0 ⟨by omega,λ_ _ hx=>by omega⟩ rfl ?_
  rintro i ⟨hi,hg⟩;conv=>whnf
  apply ax<;>intro g2;all_goals conv=>whnf
  ·have tG:i < u.methods.length:=by omega
   have e:=fM.get tG;obtain⟨bb,off,vs,hq,e1,e2⟩:=e;obtain⟨p1,c1,p2,c2,p3,c3,p4,c4,e3,_⟩:=e2.form;subst e3;have go:¬(u.methods[i].cls=x/\u.methods[i].fG=s)->∀ j (hj:j < u.methods.length),j < i+1->¬(u.methods[j].cls=x/\u.methods[j].fG=s):=by
    intro hx j hj jj;rcases Nat.lt_succ_iff_lt_or_eq.1 jj with iu|rfl
    ·exact hg j hj iu
    ·exact hx
   have r0:=aE e1 (i:=0) rfl;have r1:=aE e1 (i:=1) rfl;refine aq ?_;conv=>whnf
   refine aG hq ?_;conv=>whnf
   refine ld r0 ?_;conv=>whnf
   apply ax<;>intro g3;all_goals conv=>whnf
   ·refine aq ?_;conv=>whnf
    refine aG hq ?_;conv=>whnf
    refine ld r1 ?_;conv=>whnf
    apply ax<;>intro g4;all_goals conv=>whnf
    ·have ho:=HG tG hg ⟨g3,g4⟩;exact⟨by rw[<-x2,uX (by omega) (by omega),ho],rfl⟩
    ·refine ah ?_;conv=>whnf
     refine dm (i+1) ⟨by omega,go (λhx=>g4 hx.2)⟩ (by omega) rfl
   ·refine ah ?_;conv=>whnf
    refine dm (i+1) ⟨by omega,go (λhx=>g3 hx.1)⟩ (by omega) rfl
  ·have ho:jK x s u.methods 0 = -1:=AP (λj hj=>hg j hj (by omega));have tI:x.toNat < u.J.length:=by omega
   have e:=hcs.at tI;obtain⟨bb,off,q',k',d',hp,_,e2,_,_,_,_⟩:=e;have hs:=ok.bU (a:=x) (by omega) x1;have DZ:bG u.J x=u.J[x.toNat].bU:=by simp[bG,tI]
   refine aq ?_;conv=>whnf
   refine aG hp ?_;conv=>whnf
   refine ld e2 ?_;conv=>whnf
   refine dm (u.J[x.toNat].bU) ⟨by omega,by omega,?_⟩ (by omega) rfl;rw[<-x2,yd ok (c:=x) (by omega) x1 (by omega),DZ]
 ·exact⟨by rw[<-x2,oO (by omega)],rfl⟩
def sG (u:aO) (x:ez):Int:=if x.kind=20 then x.a else if x.kind=21 then find u x.a x.b else -1
theorem F4 (us:List Value) (u:aO) (x:ez) (h:Heap) (hu:dG h us u) (ok:cI u.J) (hx:x.kind=21->-1<=x.a/\x.a < u.J.length) :
  Pure prog 206 [.agg ⟨us⟩,.agg #[.int .i64 x.kind,.int .i64 x.a,.int .i64 x.b]] h (.int .i64 (sG u x)):=by
 have iw:=hu;obtain⟨p,cc,q,d,rfl,hcs,fM,ji,hl2⟩:=hu.form;refine iC au func206 Yf Yg rfl ?_;conv=>whnf
 apply ax<;>intro g1;all_goals conv=>whnf
 ·exact⟨by simp[sG,g1],rfl⟩
 apply ax<;>intro g2;all_goals conv=>whnf
 ·refine aj (yQ _ u _ _ h iw ok (hx g2).1 (hx g2).2) ?_;conv=>whnf
  exact⟨by simp[sG,g2],rfl⟩
 ·exact⟨by simp[sG,g1,g2],rfl⟩
theorem yR (a:Int) (h:Heap):Pure prog 194 [.int .i64 a] h (.int .i64 (if a=0 then 1 else 8)):=by
 refine iC au func194 XX XY rfl ?_;conv=>whnf
 repeat' ((first|apply ax<;>intro _|apply aT<;>intro _|apply eK<;>intro _|apply cJ<;>intro _|refine aq ?_|refine ah ?_|refine ptr ?_)<;>conv=>whnf)
 all_goals exact⟨by simp[*],rfl⟩
theorem qd (a:Int) (h:Heap):Pure prog 192 [.int .i64 a] h (.int .i64 (if a=0 then -1 else -2)):=by
 refine iC au func192 XT XU rfl ?_;conv=>whnf
 repeat' ((first|apply ax<;>intro _|apply aT<;>intro _|apply eK<;>intro _|apply cJ<;>intro _|refine aq ?_|refine ah ?_|refine ptr ?_)<;>conv=>whnf)
 all_goals exact⟨by simp[*],rfl⟩
theorem D7 (a:Int) (h:Heap):Pure prog 208 [.int .i64 a] h (.agg #[.bool (!decide (a=1)),.int .i64 0]):=by
 refine iC au func208 Yj Yk rfl ?_;conv=>whnf
 repeat' ((first|apply ax<;>intro _|apply aT<;>intro _|apply eK<;>intro _|apply cJ<;>intro _|refine aq ?_|refine ah ?_|refine ptr ?_)<;>conv=>whnf)
 all_goals exact⟨rfl,rfl⟩
theorem KY (c:nK) (n:Int) (h:Heap):Pure prog 120 [.agg #[.int .i64 c.lo,.int .i64 c.hi,.int .i64 c.to,.int .i64 c.cls],.int .i64 n] h (.bool (decide (c.lo<=n/\n < c.hi))):=by
 refine iC au func120 VT VU rfl ?_;conv=>whnf
 repeat' ((first|apply ax<;>intro _|apply aT<;>intro _|apply eK<;>intro _|apply cJ<;>intro _|refine aq ?_|refine ah ?_|refine ptr ?_)<;>conv=>whnf)
 all_goals exact⟨by simp;omega,rfl⟩
theorem uY (a n b:Int) (h:Heap):Pure prog 85 [.int .i64 a,.int .i64 n,.int .i64 b] h (.bool (decide (a<=n/\n<=b))):=by
 refine iC au func85 F85 abZ rfl ?_;conv=>whnf
 repeat' ((first|apply ax<;>intro _|apply aT<;>intro _|apply eK<;>intro _|apply cJ<;>intro _|refine aq ?_|refine ah ?_|refine ptr ?_)<;>conv=>whnf)
 all_goals exact⟨by simp;omega,rfl⟩
def typeOf (c:Int):Int:=if c = -1 then 3 else if c = -2 then 4 else 8+c
theorem IP (c:Int) (h:Heap) (hc : -2<=c/\c<=1000):Pure prog 212 [.int .i64 c] h (.int .i64 (typeOf c)):=by
 refine iC au func212 Yr Ys rfl ?_;conv=>whnf
 repeat' ((first|apply ax<;>intro _|apply aT<;>intro _|apply eK<;>intro _|apply cJ<;>intro _|refine aq ?_|refine ah ?_|refine ptr ?_)<;>conv=>whnf)
 all_goals exact⟨by simp[typeOf, *],rfl⟩
def iy (cs:List eD) (a b:Int):Bool :=
 if a=b\/b=0 then true else if a=2 then decide (2<=b)else if a < 2\/b < 8 then false else if a < 8 then decide (b=8)else up cs (a-8) (b-8)
theorem uZ (a:Int) (h:Heap):Pure prog 125 [.int .i64 a] h (.bool (decide (2<=a))):=by
 refine iC au func125 VZ V0 rfl ?_;conv=>whnf
 exact⟨rfl,rfl⟩
theorem qe (p:Option Addr) (n c:Nat) (cs:List eD) (a b:Int) (h:Heap) (hr:fP h (.slice p n c) cs) (ok:cI cs) (ha:a < 8+cs.length) (hb:b < 8+cs.length) :
  Pure prog 67 [.slice p n c,.int .i64 a,.int .i64 b] h (.bool (iy cs a b)):=by
 have hn:=hr.n;have hl:=ok.2.1;refine iC au func67 F67 abI rfl ?_;conv=>whnf
 apply ax<;>intro g1;all_goals conv=>whnf
 ·exact⟨by simp[iy,g1],rfl⟩
 apply ax<;>intro g2;all_goals conv=>whnf
 ·exact⟨by simp[iy,g2],rfl⟩
 apply ax<;>intro g3;all_goals conv=>whnf
 ·refine aj (uZ _ _) ?_;conv=>whnf
  exact⟨by unfold iy;rw[if_neg (by omega),if_pos g3],rfl⟩
 refine aj (uZ _ _) ?_;conv=>whnf
 apply aT<;>intro g4;all_goals conv=>whnf
 ·exact⟨by unfold iy;rw[if_neg (by omega),if_neg g3,if_pos (by omega)],rfl⟩
 apply ax<;>intro g5;all_goals conv=>whnf
 ·exact⟨by unfold iy;rw[if_neg (by omega),if_neg g3,if_pos (by omega)],rfl⟩
 apply ax<;>intro g6;all_goals conv=>whnf
 ·exact⟨by unfold iy;rw[if_neg (by omega),if_neg g3,if_neg (by omega),if_pos g6],rfl⟩
 ·refine ah ?_;conv=>whnf
  refine ah ?_;conv=>whnf
  refine aj (tW _ _ _ _ _ _ _ hr ok (by omega) (by omega) (by omega)) ?_;conv=>whnf
  exact⟨by unfold iy;rw[if_neg (by omega),if_neg g3,if_neg (by omega),if_neg g6],rfl⟩
theorem Co (c d:Int) (w:World):(Go.binOp .eql 186 (.iface 193 (.agg #[.int .i64 c])) (.iface 193 (.agg #[.int .i64 d]))).run prog w=.ok (.bool (c==d)) w :=
 by
 refine Kt c d (λw=>rfl) (λw=>rfl) rfl rfl ?_ ?_ rfl ?_ w
 ·kernel_rfl
 ·decide
 ·intro x w;rfl
theorem Cp (c d:Bool) (w:World):(Go.binOp .eql 186 (.iface 191 (.agg #[.bool c])) (.iface 191 (.agg #[.bool d]))).run prog w=.ok (.bool (c==d)) w:=by
 refine IF c d (λw=>rfl) (λw=>rfl) rfl rfl ?_ ?_ rfl ?_ w
 ·kernel_rfl
 ·decide
 ·intro x w;rfl
theorem KZ (p:Option Addr) (n c:Nat) (cs:List eD) (a b:Int) (h:Heap) (hr:fP h (.slice p n c) cs) (ok:cI cs)
  (ha:a=0\/a=1\/a=2\/a=3\/a=4\/(8<=a/\a < 8+cs.length)) (hb:b=0\/b=1\/b=2\/b=3\/b=4\/(8<=b/\b < 8+cs.length)) :
  Pure prog 211 [.slice p n c,eW cs.length a,eW cs.length b] h (.bool (iy cs a b)):=by
 have hn:=hr.n;have hl:=ok.2.1;have hka:8<=a/\a < 8+cs.length->eW cs.length a=.iface 193 (.agg #[.int .i64 (a-8)]):=by intro hx;simp only[eW];(repeat' split)<;>first|rfl|(exfalso;omega)
 have hkb:8<=b/\b < 8+cs.length->eW cs.length b=.iface 193 (.agg #[.int .i64 (b-8)]):=by intro hx;simp only[eW];(repeat' split)<;>first|rfl|(exfalso;omega)
 have k0:∀ m:Nat,eW m 0=.iface 213 (.agg #[]):=λm=>by simp[eW]
 have k1:∀ m:Nat,eW m 1=.iface 189 (.agg #[]):=λm=>by simp[eW]
 have k2:∀ m:Nat,eW m 2=.iface 214 (.agg #[]):=λm=>by simp[eW]
 have k3:∀ m:Nat,eW m 3=.iface 191 (.agg #[.bool false]):=λm=>by simp[eW]
 have k4:∀ m:Nat,eW m 4=.iface 191 (.agg #[.bool true]):=λm=>by simp[eW]
 rcases ha with rfl|rfl|rfl|rfl|rfl|ha<;>rcases hb with rfl|rfl|rfl|rfl|rfl|hb
 all_goals (try simp only[k0,k1,k2,k3,k4])
 all_goals (try rw[hka (by assumption)])
 all_goals (try rw[hkb (by assumption)])
 all_goals
  refine iC au func211 Yp Yq rfl ?_;conv=>whnf
  repeat' ((first
   | apply ax<;>intro _
   | apply eK<;>intro _
   | refine iI (r:=.bool true) rfl rfl (λw=>rfl) (λw=>rfl) ?_
   | refine iI (r:=.bool false) rfl rfl (λw=>rfl) (λw=>rfl) ?_
   | refine iI rfl rfl (λw=>rfl) (Co _ _) ?_
   | refine iI rfl rfl (λw=>rfl) (Cp _ _) ?_
   | refine fH rfl (λw=>rfl) ?_
   | refine aj (sD _ _ _ _ _ _ _ hr ok (by omega) (by omega)) ?_)<;>conv=>whnf)
  all_goals first
   | exact⟨rfl,rfl⟩
   | (refine⟨?_,rfl⟩;congr 1;unfold iy;(repeat' split)<;>first|rfl|(exfalso;omega)|(rw[Bool.eq_iff_iff];simp;omega))
def F5 (n:Nat) (a:Int):Prop:=a=0\/a=1\/a=2\/a=3\/a=4\/(8<=a/\a < 8+n)
theorem K0 (p:Option Addr) (n c:Nat) (cs:List eD) (a b:Int) (h:Heap) (hr:fP h (.slice p n c) cs) (ok:cI cs) (ha:F5 cs.length a) (hb:F5 cs.length b) :
  Pure prog 198 [.slice p n c,.int .i64 a,.int .i64 b] h (.bool (iy cs a b)):=by
 have hn:=hr.n;subst hn;have hl:=ok.2.1;have hI:cY a/\cY b:=by
  unfold F5 at ha hb;refine⟨⟨?_,?_⟩,⟨?_,?_⟩⟩<;>omega
 have hna:∃ t v,eW cs.length a=.iface t v:=by
  rcases ha with rfl|rfl|rfl|rfl|rfl|ha;all_goals first|exact⟨_,_,rfl⟩|exact⟨193,.agg #[.int .i64 (a-8)],by simp only[eW];(repeat' split)<;>first|rfl|(exfalso;omega)⟩
 have tR:∃ t v,eW cs.length b=.iface t v:=by
  rcases hb with rfl|rfl|rfl|rfl|rfl|hb;all_goals first|exact⟨_,_,rfl⟩|exact⟨193,.agg #[.int .i64 (b-8)],by simp only[eW];(repeat' split)<;>first|rfl|(exfalso;omega)⟩
 obtain⟨ta,va,hka⟩:=hna;obtain⟨tb,vb,hkb⟩:=tR;have c1:=uT cs.length a h (by omega) hI.1;have c2:=uT cs.length b h (by omega) hI.2;have c3:=KZ p cs.length c cs a b h hr ok ha hb;rw[hka]at c1 c3;rw[hkb]at c2 c3;refine iC au func198 X3 X4 rfl ?_;conv=>whnf
 refine aj c1 ?_;conv=>whnf
 refine aj c2 ?_;conv=>whnf
 refine iI (r:=.bool true) rfl rfl (λw=>rfl) (λw=>rfl) ?_;conv=>whnf
 refine iI (r:=.bool true) rfl rfl (λw=>rfl) (λw=>rfl) ?_;conv=>whnf
 refine aj c3 ?_;conv=>whnf
 exact⟨rfl,rfl⟩
def bR (x:Vl):List Value:=[.bool x.ref,.int .i64 x.n]
abbrev cj (h:Heap) (v:Value) (l:List Vl) (B:List Nat):Prop:=cr 2 h v (l.map bR) B
def mA (h:Heap) (x:List Value) (o:Ob) (B:List Nat):Prop:=∃ v,x=[.int .i64 o.cls,v]/\cj h v o.aW B
def qf (h:Heap) (x:List Value) (f:bQ) (B:List Nat):Prop:=∃ v1 v2 B1 B2,x=[.int .i64 f.U,.int .i64 f.pc,v1,v2]/\cj h v1 f.locals B1/\cj h v2 f.stack B2/\B=B1++B2
inductive Rows {α:Type} (R:Heap->List Value->α->List Nat->Prop) (h:Heap):List (List Value)->List α->List Nat->Prop where
 | nil:Rows R h [] [] []
 | cons {x:List Value} {a:α} {B1:List Nat} {xs:List (List Value)} {l:List α} {B2:List Nat} (h1:R h x a B1) (h2:Rows R h xs l B2):Rows R h (x::xs) (a::l) (B1++B2)
def eN {α:Type} (R:Heap->List Value->α->List Nat->Prop) (sz:Nat) (h:Heap) (v:Value) (l:List α) (B:List Nat):Prop:=∃ xs B0 B1,cr sz h v xs B0/\Rows R h xs l B1/\B=B0++B1
def gN (h:Heap) (mc:List Value) (m:bM) (B:List Nat):Prop:=∃ vo vf vs B1 B2 B3,mc=[vo,vf,vs,.int .i64 m.steps,.int .i64 m.fin,.bool m.out.ref,.int .i64 m.out.n] /\
 eN mA 2 h vo m.objs B1/\eN qf 4 h vf m.ag B2/\dR h vs m.said B3/\B=B1++B2++B3
def cR (h h':Heap) (B:List Nat):Prop:=∀ b∈B,∀ o,h b=some o->h' b=some o
theorem cR.of_le {h h':Heap} (hl:h.le h') (B:List Nat):cR h h' B:=λb _ o ho=>hl b o ho
theorem cR.sub {h h':Heap} {A B:List Nat} (hk:cR h h' B) (hs:∀ b∈A,b∈B):cR h h' A:=λb hb=>hk b (hs b hb)
theorem cR.l {h h':Heap} {A B:List Nat} (hk:cR h h' (A++B)):cR h h' A:=hk.sub λb hb=>u_.2 (.inl hb)
theorem cR.r {h h':Heap} {A B:List Nat} (hk:cR h h' (A++B)):cR h h' B:=hk.sub λb hb=>u_.2 (.inr hb)
theorem cr.aJ {sz:Nat} {h h':Heap} {v:Value} {xs:List (List Value)} {B:List Nat} (hk:cR h h' B) (ho:cr sz h v xs B):cr sz h' v xs B:=by
 obtain⟨h1,h2⟩:=ho;refine⟨h1,h2.imp id ?_⟩;rintro⟨b,c,rest,t,e1,e2,e3,e4,rfl⟩;exact⟨b,c,rest,t,e1,e2,hk b (by simp) _ e3,e4,rfl⟩
theorem mA.aJ {h h':Heap} {x:List Value} {o:Ob} {B:List Nat} (hk:cR h h' B) (ho:mA h x o B):mA h' x o B:=by
 obtain⟨v,h1,h2⟩:=ho;exact⟨v,h1,h2.aJ hk⟩
theorem qf.aJ {h h':Heap} {x:List Value} {f:bQ} {B:List Nat} (hk:cR h h' B) (ho:qf h x f B):qf h' x f B:=by
 obtain⟨v1,v2,B1,B2,h1,h2,h3,rfl⟩:=ho;exact⟨v1,v2,B1,B2,h1,h2.aJ hk.l,h3.aJ hk.r,rfl⟩
def Kept {α:Type} (R:Heap->List Value->α->List Nat->Prop):Prop:=∀(h h':Heap) (x:List Value) (a:α) (B:List Nat),cR h h' B->R h x a B->R h' x a B
theorem Rows.aJ {α:Type} {R:Heap->List Value->α->List Nat->Prop} (hR:Kept R) {h h':Heap} {xs:List (List Value)} {l:List α} {B:List Nat} (hr:Rows R h xs l B):cR h h' B->Rows R h' xs l B:=by
 induction hr with
 | nil=>exact λ_=>.nil
 | cons h1 _ ih=>exact λhk=>.cons (hR _ _ _ _ _ hk.l h1) (ih hk.r)
theorem eN.aJ {α:Type} {R:Heap->List Value->α->List Nat->Prop} (hR:Kept R) {sz:Nat} {h h':Heap} {v:Value} {l:List α} {B:List Nat} (hk:cR h h' B) (ho:eN R sz h v l B):eN R sz h' v l B:=by
 obtain⟨xs,B0,B1,h1,h2,rfl⟩:=ho;exact⟨xs,B0,B1,h1.aJ hk.l,h2.aJ hR hk.r,rfl⟩
theorem jP:Kept mA:=λ_ _ _ _ _=>mA.aJ
theorem mY:Kept qf:=λ_ _ _ _ _=>qf.aJ
theorem gN.aJ {h h':Heap} {mc:List Value} {m:bM} {B:List Nat} (hk:cR h h' B) (ho:gN h mc m B):gN h' mc m B:=by
 obtain⟨vo,vf,vs,B1,B2,B3,h1,h2,h3,h4,rfl⟩:=ho;exact⟨vo,vf,vs,B1,B2,B3,h1,h2.aJ jP hk.l.l,h3.aJ mY hk.l.r,h4.aJ hk.r,rfl⟩
theorem Rows.len {α:Type} {R:Heap->List Value->α->List Nat->Prop} {h:Heap} {xs:List (List Value)} {l:List α} {B:List Nat} (hr:Rows R h xs l B):xs.length=l.length:=by
 induction hr with
 | nil=>rfl
 | cons _ _ ih=>simp[ih]
theorem Rows.app {α:Type} {R:Heap->List Value->α->List Nat->Prop} {h:Heap} {xs ys:List (List Value)} {l k:List α} {A B:List Nat} (h1:Rows R h xs l A) (h2:Rows R h ys k B):Rows R h (xs++ys) (l++k) (A++B):=by
 induction h1 with
 | nil=>exact h2
 | cons a _ ih=>simp only[List.cons_append,List.append_assoc];exact .cons a ih
theorem Rows.one {α:Type} {R:Heap->List Value->α->List Nat->Prop} {h:Heap} {x:List Value} {a:α} {B:List Nat} (h1:R h x a B):Rows R h [x] [a] B:=by
 have:=Rows.cons h1 (Rows.nil (R:=R) (h:=h));simpa using this
theorem Rows.split {α:Type} {R:Heap->List Value->α->List Nat->Prop} {h:Heap}:∀ {l k:List α} {xs:List (List Value)} {B:List Nat},Rows R h xs (l++k) B ->
  ∃ ys zs A C,xs=ys++zs/\B=A++C/\Rows R h ys l A/\Rows R h zs k C
 | [],k,xs,B,hr=>⟨[],xs,[],B,rfl,rfl,.nil,hr⟩
 | a::l,k,xs,B,hr=>by
  cases hr with
  | cons h1 h2 =>
   obtain⟨ys,zs,A,C,rfl,rfl,h3,h4⟩:=Rows.split h2;exact⟨_::ys,zs,_,C,rfl,by simp,.cons h1 h3,h4⟩
theorem Rows.single {α:Type} {R:Heap->List Value->α->List Nat->Prop} {h:Heap} {xs:List (List Value)} {a:α} {B:List Nat} (hr:Rows R h xs [a] B):∃ x,xs=[x]/\R h x a B:=by
 cases hr with
 | cons h1 h2=>cases h2;exact⟨_,rfl,by simpa using h1⟩
theorem cr.in {sz:Nat} {h:Heap} {v:Value} {xs:List (List Value)} {B:List Nat} (ho:cr sz h v xs B):∀ b∈B,∃ o,h b=some o:=by
 obtain⟨_,⟨_,_,rfl⟩|⟨b,c,rest,t,_,_,e3,_,rfl⟩⟩:=ho
 ·simp
 ·simp[e3]
def OD {α:Type} (R:Heap->List Value->α->List Nat->Prop):Prop:=∀(h:Heap) (x:List Value) (a:α) (B:List Nat),R h x a B->∀ b∈B,∃ o,h b=some o
theorem Rows.in {α:Type} {R:Heap->List Value->α->List Nat->Prop} (hR:OD R) {h:Heap} {xs:List (List Value)} {l:List α} {B:List Nat} (hr:Rows R h xs l B):∀ b∈B,∃ o,h b=some o:=by
 induction hr with
 | nil=>simp
 | cons h1 _ ih=>exact λb hb=>(u_.1 hb).elim (hR _ _ _ _ h1 b) (ih b)
theorem mA.in {h:Heap} {x:List Value} {o:Ob} {B:List Nat} (ho:mA h x o B):∀ b∈B,∃ o,h b=some o:=by
 obtain⟨v,_,h2⟩:=ho;exact h2.in
theorem qf.in {h:Heap} {x:List Value} {f:bQ} {B:List Nat} (ho:qf h x f B):∀ b∈B,∃ o,h b=some o:=by
 obtain⟨v1,v2,B1,B2,_,h2,h3,rfl⟩:=ho;exact λb hb=>(u_.1 hb).elim (h2.in b) (h3.in b)
theorem Ad:OD mA:=λ_ _ _ _=>mA.in
theorem Ui:OD qf:=λ_ _ _ _=>qf.in
theorem eN.in {α:Type} {R:Heap->List Value->α->List Nat->Prop} (hR:OD R) {sz:Nat} {h:Heap} {v:Value} {l:List α} {B:List Nat} (ho:eN R sz h v l B):∀ b∈B,∃ o,h b=some o:=by
 obtain⟨xs,B0,B1,h1,h2,rfl⟩:=ho;exact λb hb=>(u_.1 hb).elim (h1.in b) (h2.in hR b)
theorem gN.in {h:Heap} {mc:List Value} {m:bM} {B:List Nat} (ho:gN h mc m B):∀ b∈B,∃ o,h b=some o:=by
 obtain⟨vo,vf,vs,B1,B2,B3,_,h2,h3,h4,rfl⟩:=ho;intro b hb;rcases u_.1 hb with hb|hb
 ·rcases u_.1 hb with hb|hb
  ·exact h2.in Ad b hb
  ·exact h3.in Ui b hb
 ·exact h4.in b hb
structure Ev (h h':Heap) (S S':List Nat):Prop where
 iB:∀ b,h b≠none->b ∉ S->h' b=h b
 new:∀ b∈S',b∈S\/h b=none
theorem Ev.refl (h:Heap) (S:List Nat):Ev h h S S:=⟨λ_ _ _=>rfl,λ_ hb=>.inl hb⟩
theorem Ev.trans {h h1 h2:Heap} {S S1 S2:List Nat} (a:Ev h h1 S S1) (b:Ev h1 h2 S1 S2):Ev h h2 S S2 where
 iB c hc hs:=by
  have h1c:=a.iB c hc hs;rw[b.iB c (by rw[h1c];exact hc) (λhm=>(a.new c hm).elim hs hc),h1c]
 new c hc:=by
  rcases b.new c hc with hm|hm
  ·exact a.new c hm
  ·by_cases hs:c∈S
   ·exact .inl hs
   ·by_cases hn:h c=none
    ·exact .inr hn
    ·rw[a.iB c hn hs]at hm;exact absurd hm hn
theorem Ev.le {h0 h h':Heap} {S S':List Nat} (ev:Ev h h' S S') (hl:h0.le h) (hs:∀ b∈S,h0 b=none):h0.le h':=by
 intro b o ho;have h1:=hl b o ho;rw[ev.iB b (by rw[h1];simp) (λhm=>by rw[hs b hm]at ho;cases ho)];exact h1
theorem Ev.fresh {h0 h h':Heap} {S S':List Nat} (ev:Ev h h' S S') (hl:h0.le h) (hs:∀ b∈S,h0 b=none):∀ b∈S',h0 b=none:=by
 intro b hb;rcases ev.new b hb with hm|hm
 ·exact hs b hm
 ·cases hh:h0 b with
  | none=>rfl
  | some o=>rw[hl b o hh]at hm;cases hm
theorem Ev.aJ {h h':Heap} {S S' A:List Nat} (ev:Ev h h' S S') (hd:∀ b∈A,b ∉ S):cR h h' A:=λb hb o ho=>by rw[ev.iB b (by rw[ho];simp) (hd b hb)];exact ho
theorem Ev.of_le {h h':Heap} {S:List Nat} (hl:h.le h') (S':List Nat) (hs:∀ b∈S',b∈S\/h b=none):Ev h h' S S' where
 iB b hb _:=by
  cases hh:h b with
  | none=>exact absurd hh hb
  | some o=>exact hl b o hh
 new:=hs
theorem Ev.more {h h':Heap} {S S':List Nat} (ev:Ev h h' S S') (A:List Nat):Ev h h' (A++S) (A++S') where
 iB b hb hs:=ev.iB b hb (λhm=>hs (u_.2 (.inr hm)))
 new b hb:=by
  rcases u_.1 hb with hb|hb
  ·exact .inl (u_.2 (.inl hb))
  ·exact(ev.new b hb).imp (λhm=>u_.2 (.inr hm)) id
theorem bJ {h:Heap} {b:Nat} {cs:List Value} {t:TypeId} {fz:Nat × Nat} (hb:h b=some (.cells cs.toArray t fz)) {i:Nat} {v:Value} (hv:cs[i]? = some v):rd h b i=some v:=by
 simp[rd,hb,hv]
theorem HH {pre x post:List Value} {i:Nat} {v:Value} (hv:x[i]? = some v):(pre++x++post)[pre.length+i]? = some v:=by
 have hi:i < x.length:=(List.getElem?_eq_some_iff.1 hv).1;rw[List.append_assoc,List.getElem?_append_right (by omega),Nat.add_sub_cancel_left,List.getElem?_append_left hi];exact hv
theorem bE {h:Heap} {b:Nat} {pre x post:List Value} {t:TypeId} {fz:Nat × Nat} (hb:h b=some (.cells (pre++x++post).toArray t fz)) {i n:Nat} {v:Value} (hn:n=pre.length+i) (hv:x[i]? = some v):rd h b n=some v:=by
 subst hn;exact bJ hb (HH hv)
theorem jZ {pre x post:List Value} {i n:Nat} {v:Value} (hn:n=pre.length+i) (hi:i < x.length):eS (pre++x++post) n [v]=pre++x.set i v++post:=by
 subst hn;simp only[eS,wj];rw[List.append_assoc,List.set_append,if_neg (by omega),Nat.add_sub_cancel_left,List.set_append,if_pos hi,List.append_assoc]
def Nd (l:List Nat):Prop:=∀ a,l.count a<=1
theorem Nd.perm {l k:List Nat} (h:Nd l) (hp:∀ a,k.count a=l.count a):Nd k:=λa=>by rw[hp a];exact h a
theorem Nd.less {l k:List Nat} (h:Nd l) (hp:∀ a,k.count a<=l.count a):Nd k:=λa=>Nat.le_trans (hp a) (h a)
theorem Nd.swap {A X X':List Nat} (h:Nd (A++X)) (hx:Nd X') (hn:∀ b∈X',b∈X\/b ∉ A):Nd (A++X'):=by
 intro a;have h1:=h a;have h2:=hx a;simp only[Y_]at h1 ⊢;by_cases hm:a∈X'
 ·have:A.count a=0:=by
   rcases hn a hm with h3|h3
   ·have:=W_.2 h3;omega
   ·exact List.count_eq_zero.2 h3
  omega
 ·have:=List.count_eq_zero.2 hm;omega
theorem cr.nd {sz:Nat} {h:Heap} {v:Value} {xs:List (List Value)} {B:List Nat} (ho:cr sz h v xs B):Nd B:=by
 obtain⟨_,⟨_,_,rfl⟩|⟨b,c,rest,t,_,_,_,_,rfl⟩⟩:=ho
 ·intro a;simp
 ·intro a;simp only[X_,List.count_nil];split<;>omega
theorem iU {l k:List Nat} (hp:∀ a,k.count a=l.count a) (b:Nat):b∈k↔b∈l:=by
 rw[<-W_,<-W_,hp b]
theorem eN.at {α:Type} {R:Heap->List Value->α->List Nat->Prop} (hR:Kept R) {sz:Nat} {h:Heap} {v:Value} {l1 l2:List α} {a:α} {B:List Nat} (ho:eN R sz h v (l1++a::l2) B) :
  ∃ b c x pre post t Bo Bi,v=.slice (some ⟨b,0,none⟩) (l1.length+l2.length+1) c/\l1.length+l2.length+1<=c/\h b=some (.cells (pre++x++post).toArray t (0,0))/\pre.length=l1.length*sz/\x.length=sz/\R h x a Bi /\
   (∀ n,B.count n=(b::Bo++Bi).count n) /\
   ∀ h' x' a' YO,h' b=some (.cells (pre++x'++post).toArray t (0,0))->x'.length=sz->R h' x' a' YO->cR h h' Bo->∃ B',eN R sz h' v (l1++a'::l2) B'/\∀ n,B'.count n=(b::Bo++YO).count n:=by
 obtain⟨xs,B0,B1,⟨hx,hc⟩,h2,rfl⟩:=ho;obtain⟨ys,zs,A,C,rfl,rfl,h3,h4⟩:=Rows.split h2;cases h4 with
 | @cons x _ Bi zs _ C h5 h6 =>
 have ji:=h3.len;have hl2:=h6.len;rcases hc with ⟨_,hn,_⟩|⟨b,c,rest,t,rfl,gF,hb,hlen,rfl⟩
 ·simp at hn
 refine⟨b,c,x,ys.flatten,zs.flatten++rest,t,A++C,Bi,?_,?_,?_,?_,hx x (by simp),h5,?_,?_⟩
 ·simp[ji,hl2];omega
 ·simp[ji,hl2]at gF;omega
 ·rw[hb];simp
 ·rw[bW (sz:=sz) (λy hy=>hx y (by simp[hy])),ji]
 ·intro n;simp[Y_,X_];omega
 ·intro h' x' a' YO bA xB hR' hk;refine⟨[b]++(A++(YO++C)),⟨ys++x'::zs,[b],A++(YO++C),⟨?_,.inr ⟨b,c,rest,t,by simp,by simpa using gF,by rw[bA];simp,?_,rfl⟩⟩,(h3.aJ hR hk.l).app (.cons hR' (h6.aJ hR hk.r)),rfl⟩,?_⟩
  ·intro y hy;simp only[u_,List.mem_cons]at hy;rcases hy with hy|rfl|hy
   ·exact hx y (by simp[hy])
   ·exact xB
   ·exact hx y (by simp[hy])
  ·have:=hx x (by simp);simp only[List.flatten_append,List.flatten_cons,U_]at hlen ⊢;omega
  ·intro n;simp[Y_,X_];omega
theorem eN.pop {α:Type} {R:Heap->List Value->α->List Nat->Prop} {sz:Nat} {h:Heap} {p:Option Addr} {n c:Nat} {l:List α} {a:α} {B:List Nat} (ho:eN R sz h (.slice p n c) (l++[a]) B) :
  n=l.length+1/\∃ B',eN R sz h (.slice p l.length c) l B'/\∀ n,B'.count n<=B.count n:=by
 obtain⟨xs,B0,B1,⟨hx,hc⟩,h2,rfl⟩:=ho;obtain⟨ys,zs,A,C,rfl,rfl,h3,h4⟩:=Rows.split h2;obtain⟨x,rfl,h5⟩:=h4.single;have ji:=h3.len;rcases hc with ⟨_,hn,_⟩|⟨b,c',rest,t,he,gF,hb,hlen,rfl⟩
 ·simp at hn
 simp only[Z_]at he;obtain⟨rfl,rfl,rfl⟩:=he;refine⟨by simp[ji],[b]++A,⟨ys,[b],A,⟨λy hy=>hx y (by simp[hy]),.inr ⟨b,c,x++rest,t,by simp[ji],by simp[ji]at gF ⊢;omega,by rw[hb];simp,by simpa using hlen,rfl⟩⟩,h3,rfl⟩,λm=>?_⟩;simp[Y_,X_]
theorem cr.at {sz:Nat} {h:Heap} {v:Value} {xs ys:List (List Value)} {x:List Value} {B:List Nat} (ho:cr sz h v (xs++x::ys) B) :
  ∃ b c pre post t,v=.slice (some ⟨b,0,none⟩) (xs.length+ys.length+1) c/\h b=some (.cells (pre++x++post).toArray t (0,0))/\pre.length=xs.length*sz/\x.length=sz/\B=[b] /\
   ∀ h' x',h' b=some (.cells (pre++x'++post).toArray t (0,0))->x'.length=sz->cr sz h' v (xs++x'::ys) B:=by
 obtain⟨hx,hc⟩:=ho;rcases hc with ⟨_,hn,_⟩|⟨b,c,rest,t,rfl,gF,hb,hlen,rfl⟩
 ·simp at hn
 refine⟨b,c,xs.flatten,ys.flatten++rest,t,by simp[Nat.add_assoc],by rw[hb];simp,bW (sz:=sz) (λy hy=>hx y (by simp[hy])),hx x (by simp),rfl,?_⟩;intro h' x' bA xB;refine⟨?_,.inr ⟨b,c,rest,t,by simp,by simpa using gF,by rw[bA];simp,?_,rfl⟩⟩
 ·intro y hy;simp only[u_,List.mem_cons]at hy;rcases hy with hy|rfl|hy
  ·exact hx y (by simp[hy])
  ·exact xB
  ·exact hx y (by simp[hy])
 ·have:=hx x (by simp);simp only[List.flatten_append,List.flatten_cons,U_]at hlen ⊢;omega
structure gV (h0 h:Heap) (bm:Nat) (pre post:List Value) (M:bM) (B:List Nat):Prop where
 le:h0.le h
 cell:∃ mc t,h bm=some (.cells (pre++mc++post).toArray t (0,0))/\gN h mc M B
 nd:Nd (bm::B)
 fr:∀ b∈bm::B,h0 b=none
def ay (vo vf vs:Value) (M:bM):List Value:=[vo,vf,vs,.int .i64 M.steps,.int .i64 M.fin,.bool M.out.ref,.int .i64 M.out.n]
theorem gV.top {h0 h:Heap} {bm:Nat} {pre post:List Value} {M:bM} {B:List Nat} {fs:List bQ} {f:bQ} (hM:gV h0 h bm pre post M B) (hf:M.ag=fs++[f]) :
  ∃ vo vs bf c tm t q r v1 v2 Bo B1 B2,h bm=some (.cells (pre++ay vo (.slice (some ⟨bf,0,none⟩) (fs.length+1) c) vs M++post).toArray tm (0,0)) /\
   h bf=some (.cells (q++[.int .i64 f.U,.int .i64 f.pc,v1,v2]++r).toArray t (0,0))/\q.length=fs.length*4/\cj h v1 f.locals B1/\cj h v2 f.stack B2 /\
   Nd (bm::bf::(Bo++B1++B2))/\(∀ b∈bm::bf::(Bo++B1++B2),∃ o,h b=some o)/\(∀ b,b∈bm::B↔b∈bm::bf::(Bo++B1++B2)) /\
   ∀ h' f' AQ uB jz ie,h' bm=h bm->h' bf=some (.cells (q++[.int .i64 f'.U,.int .i64 f'.pc,AQ,uB]++r).toArray t (0,0))->cj h' AQ f'.locals jz->cj h' uB f'.stack ie->cR h h' Bo ->
    Nd (bm::bf::(Bo++jz++ie))->Ev h h' (bm::B) (bm::bf::(Bo++jz++ie))->∃ B',gV h0 h' bm pre post {M with ag:=fs++[f']} B'/\Ev h h' (bm::B) (bm::B'):=by
 obtain⟨hle,⟨mc,tm,hb,vo,vf,vs,Bo,Bf,Bs,rfl,ho,gz,hs,rfl⟩,nd,fr⟩:=hM;rw[hf]at gz;obtain⟨bf,c,x,q,r,t,Bx,Bi,rfl,_,kz,hq,_,⟨v1,v2,B1,B2,rfl,g1,g2,rfl⟩,js,fe⟩:=gz.at mY;have fW:∀ b∈bm::(Bo++Bf++Bs),∃ o,h b=some o:=by
  intro b bA;rcases List.mem_cons.1 bA with rfl|bA
  ·exact⟨_,hb⟩
  ·refine gN.in (h:=h) (mc:=ay vo _ vs M) (m:=M) ⟨vo,_,vs,Bo,Bf,Bs,rfl,ho,by rw[hf];exact gz,hs,rfl⟩ b bA
 have hp:∀ a,(bm::bf::((Bo++Bx++Bs)++B1++B2)).count a=(bm::(Bo++Bf++Bs)).count a:=by
  intro a;have:=js a;simp only[Y_,X_]at this ⊢;omega
 refine⟨vo,vs,bf,c,tm,t,q,r,v1,v2,Bo++Bx++Bs,B1,B2,by simpa [ay]using hb,kz,hq,g1,g2,nd.perm hp,λb bA=>fW b ((iU hp b).1 bA),λb=>(iU hp b).symm,?_⟩;intro h' f' AQ uB jz ie k1 k2 k3 k4 k5 k6 k7;obtain⟨Bf',o1,o2⟩:=fe h' _ f' (jz++ie) k2 rfl ⟨AQ,uB,jz,ie,rfl,k3,k4,rfl⟩ k5.l.r;have Oy:∀ a,(bm::(Bo++Bf'++Bs)).count a=(bm::bf::((Bo++Bx++Bs)++jz++ie)).count a:=by
  intro a;have:=o2 a;simp only[Y_,X_]at this ⊢;omega
 have ev:Ev h h' (bm::(Bo++Bf++Bs)) (bm::(Bo++Bf'++Bs)):=⟨k7.iB,λb bA=>k7.new b ((iU Oy b).1 bA)⟩
 refine⟨Bo++Bf'++Bs,⟨ev.le hle fr,⟨_,tm,by rw[k1,hb],vo,_,vs,Bo,Bf',Bs,rfl,ho.aJ jP k5.l.l,o1,hs.aJ k5.r,rfl⟩,k6.perm Oy,ev.fresh hle fr⟩,ev⟩
end Go.Proofs
