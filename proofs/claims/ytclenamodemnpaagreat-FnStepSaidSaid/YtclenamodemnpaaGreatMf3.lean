/- Part 3 of the lemmas on which the law rests: what functions of the program and of the reference do; no conditions but those that each lemma states. -/
import Derived.Test.YtclenamodemnpaaGreatMf2
set_option linter.unusedSimpArgs false
set_option linter.unusedVariables false
namespace Go.Proofs
open Go.Vc Go.Proofs.Tryz
set_option maxRecDepth 100000
set_option maxHeartbeats 4000000
noncomputable def tf (p:Prop):Value:=.bool (@decide p (Classical.propDecidable p))
theorem lW {p:Prop} (hp:p):tf p=.bool true:=by unfold tf;rw[@decide_eq_true p (Classical.propDecidable p) hp]
theorem eN {p:Prop} (hp:¬p):tf p=.bool false:=by unfold tf;rw[@decide_eq_false p (Classical.propDecidable p) hp]
theorem zx {p q:Prop} {_:Decidable q} (hp:p↔q):tf p=.bool (decide q):=by
 by_cases hq:q
 ·rw[lW (hp.2 hq),decide_eq_true hq]
 ·rw[eN (λx=>hq (hp.1 x)),decide_eq_false hq]
theorem jQ {p:Prop} (hp:p):Value.bool true=tf p:=(lW hp).symm
theorem iO {p:Prop} (hp:¬p):Value.bool false=tf p:=(eN hp).symm
theorem lX {p q:Prop} {_:Decidable q} (hp:p↔q):Value.bool (decide q)=tf p:=(zx hp).symm
def eA (n t:Int):Value :=
 if t=0 then .iface 204 (.agg #[])else if t=1 then .iface 178 (.agg #[])else if t=2 then .iface 205 (.agg #[])
 else if t=3 then .iface 180 (.agg #[.bool false])else if t=4 then .iface 180 (.agg #[.bool true])
 else if 8<=t/\t < 8+n then .iface 182 (.agg #[.int .i64 (t-8)])else .nilIface
theorem tS (n t:Int) (h:Heap) (hn:0<=n/\n<=140737488351232) (ht:cL t):Pure prog 165 [.int .i64 n,.int .i64 t] h (eA n t):=by
 obtain⟨t0,t1⟩:=ht;refine gN au func165 T2 T3 rfl ?_;conv=>whnf
 repeat' ((first
  | apply ax<;>intro h1
  | refine aj ?_)<;>conv=>whnf)
 all_goals exact⟨by simp[eA, *];try omega,rfl⟩
def cR (n t:Int):Prop:=t=1\/t=3\/t=4\/(8<=t/\t < 8+n)
theorem qo (n t:Int) (h:Heap) (hn:0<=n/\n<=140737488351232) (ht:cL t):Pure prog 124 [.int .i64 n,.int .i64 t] h (tf (cR n t)):=by
 refine gN au func124 SQ SR rfl ?_;have c:=tS n t h hn ht;have hk:∀ v,eA n t=v->Pure prog 165 [.int .i64 n,.int .i64 t] h v:=by rintro v rfl;exact c
 have tT:t=0\/t=1\/t=2\/t=3\/t=4\/(8<=t/\t < 8+n)\/(t≠0/\t≠1/\t≠2/\t≠3/\t≠4/\¬(8<=t/\t < 8+n)):=by omega
 conv=>whnf
 rcases tT with rfl|rfl|rfl|rfl|rfl|h1|⟨h1,h2,h3,h4,h5,h6⟩
 ·refine ay (hk (.iface 204 (.agg #[])) (by simp[eA])) ?_;conv=>whnf
  refine eR rfl (λw=>rfl) ?_;conv=>whnf
  refine eR rfl (λw=>rfl) ?_;conv=>whnf
  refine eR rfl (λw=>rfl) ?_;conv=>whnf
  exact⟨by rw[eN];unfold cR;omega,rfl⟩
 ·refine ay (hk (.iface 178 (.agg #[])) (by simp[eA])) ?_;conv=>whnf
  refine eR rfl (λw=>rfl) ?_;conv=>whnf
  refine eR rfl (λw=>rfl) ?_;conv=>whnf
  refine eR rfl (λw=>rfl) ?_;conv=>whnf
  exact⟨by rw[lW];unfold cR;omega,rfl⟩
 ·refine ay (hk (.iface 205 (.agg #[])) (by simp[eA])) ?_;conv=>whnf
  refine eR rfl (λw=>rfl) ?_;conv=>whnf
  refine eR rfl (λw=>rfl) ?_;conv=>whnf
  refine eR rfl (λw=>rfl) ?_;conv=>whnf
  exact⟨by rw[eN];unfold cR;omega,rfl⟩
 ·refine ay (hk (.iface 180 (.agg #[.bool false])) (by simp[eA])) ?_;conv=>whnf
  refine eR rfl (λw=>rfl) ?_;conv=>whnf
  refine eR rfl (λw=>rfl) ?_;conv=>whnf
  refine eR rfl (λw=>rfl) ?_;conv=>whnf
  exact⟨by rw[lW];unfold cR;omega,rfl⟩
 ·refine ay (hk (.iface 180 (.agg #[.bool true])) (by simp[eA])) ?_;conv=>whnf
  refine eR rfl (λw=>rfl) ?_;conv=>whnf
  refine eR rfl (λw=>rfl) ?_;conv=>whnf
  refine eR rfl (λw=>rfl) ?_;conv=>whnf
  exact⟨by rw[lW];unfold cR;omega,rfl⟩
 ·refine ay (hk (.iface 182 (.agg #[.int .i64 (t-8)])) (by simp only[eA];(repeat' split)<;>first|rfl|(exfalso;omega))) ?_;conv=>whnf
  refine eR rfl (λw=>rfl) ?_;conv=>whnf
  refine eR rfl (λw=>rfl) ?_;conv=>whnf
  refine eR rfl (λw=>rfl) ?_;conv=>whnf
  exact⟨by rw[lW];unfold cR;omega,rfl⟩
 ·refine ay (hk .nilIface (by simp[eA, *])) ?_;conv=>whnf
  refine eR rfl (λw=>rfl) ?_;conv=>whnf
  refine eR rfl (λw=>rfl) ?_;conv=>whnf
  refine eR rfl (λw=>rfl) ?_;conv=>whnf
  exact⟨by rw[eN];unfold cR;omega,rfl⟩
theorem vu (p:Option Addr) (n c:Nat) (x:Int) (h:Heap):Pure prog 64 [.slice p n c,.int .i64 x] h (tf (0<=x/\x < n)):=by
 refine gN au func64 F64 ZP rfl ?_;conv=>whnf
 apply ax<;>intro h1;all_goals conv=>whnf
 ·exact⟨by rw[zx (q:=x < n)];omega,rfl⟩
 ·exact⟨by rw[eN];omega,rfl⟩
def bC (cs:List dR) (c:Int):Int:=match cs[c.toNat]? with
 | some x=>x.bN
 | none=>-1
theorem lY {cs:List dR} {i:Nat} (hi:i < cs.length):bC cs i=cs[i].bN:=by simp[bC,hi]
def ie (n:Nat) (l:List Int):Prop:=∀ t∈l,cR n t
def xT (n:Nat) (i:Nat) (c:dR):Prop:=ie n c.fields/\(i=0->c.bN = -1/\c.fields=[])/\(i=1->c.bN=0/\c.fields=[1])/\(1 < i->0<=c.bN/\c.bN < i)/\c.fields.length<=2
def cj (cs:List dR):Prop:=2<=cs.length/\cs.length<=5/\∀ i (hi:i < cs.length),xT cs.length i cs[i]
abbrev fo:=Row 2 CG
theorem fo.at {h:Heap} {p:Option Addr} {n c:Nat} {cs:List dR} (hr:fo h (.slice p n c) cs) {i:Nat} (hi:i < cs.length) :
  ∃ b off q k d,p=some ⟨b,off,none⟩/\eG h b (off+i*2) 2=some [.int .i64 cs[i].bN,.slice q k d]/\rd h b (off+i*2)=some (.int .i64 cs[i].bN)/\rd h b (off+i*2+1)=some (.slice q k d)/\cL cs[i].bN/\cT h (.slice q k d) cs[i].fields/\k=cs[i].fields.length:=by
 obtain⟨b,off,vs,hp,h1,f,rfl,h2,h3⟩:=hr.get hi;obtain⟨q,d,rfl,_,_⟩:=h3.len;exact⟨b,off,q,_,d,hp,h1,aK h1 (i:=0) rfl,aK h1 (i:=1) rfl,h2,h3,rfl⟩
theorem Ja {l:List Int} {x:Int} (h1:l.length=1) (h2:l[0]=x):l=[x]:=by
 match l,h1,h2 with
 | [y],_,h2=>simp at h2;rw[h2]
theorem CL (p:Option Addr) (n c:Nat) (cs:List dR) (h:Heap) (hr:fo h (.slice p n c) cs):Pure prog 63 [.slice p n c] h (tf (cj cs)):=by
 obtain rfl:n=cs.length:=by obtain⟨_,_,he,_⟩:=hr.len;injection he
 have hl:cs.length<=140737488351232:=by obtain⟨_,_,_,_,he⟩:=hr.len;omega
 refine gN au func63 F63 ZO rfl ?_;conv=>whnf
 apply ax<;>intro h1;all_goals conv=>whnf
 ·exact⟨by rw[eN];rintro⟨h2,_⟩;omega,rfl⟩
 apply ax<;>intro h2;all_goals conv=>whnf
 ·exact⟨by rw[eN];rintro⟨_,h3,_⟩;omega,rfl⟩
 obtain⟨b,off,q0,k0,d0,hp,a1,a2,a3,a4,a5,a6⟩:=hr.at (i:=0) (by omega);obtain⟨b',dU,q1,k1,d1,LF,b1,b2,b3,b4,b5,b6⟩:=hr.at (i:=1) (by omega);rw[hp]at LF;simp only[Option.some.injEq,Addr.mk.injEq,and_true]at LF;obtain⟨rfl,rfl⟩:=LF;subst hp;refine aq ?_;conv=>whnf
 refine ptr ?_;conv=>whnf
 refine ld a2 ?_;conv=>whnf
 apply aV<;>intro h3;all_goals conv=>whnf
 ·exact⟨by rw[eN];rintro⟨_,_,h4⟩;exact h3 ((h4 0 (by omega)).2.1 rfl).1,rfl⟩
 refine aq ?_;conv=>whnf
 refine ptr ?_;conv=>whnf
 refine ld a3 ?_;conv=>whnf
 apply aV<;>intro h4;all_goals conv=>whnf
 ·exact⟨by rw[eN];rintro⟨_,_,h5⟩;refine h4 ?_;have:=((h5 0 (by omega)).2.1 rfl).2;rw[a6,this];rfl,rfl⟩
 refine aq ?_;conv=>whnf
 refine ptr ?_;conv=>whnf
 refine dK b1 ?_;conv=>whnf
 apply aV<;>intro h5;all_goals conv=>whnf
 ·exact⟨by rw[eN];rintro⟨_,_,h6⟩;exact h5 ((h6 1 (by omega)).2.2.1 rfl).1,rfl⟩
 apply aV<;>intro h6;all_goals conv=>whnf
 ·exact⟨by rw[eN];rintro⟨_,_,h7⟩;refine h6 ?_;have:=((h7 1 (by omega)).2.2.1 rfl).2;rw[b6,this];rfl,rfl⟩
 obtain⟨b1',abD,vs,hq,c1,c2,c3⟩:=b5.get (i:=0) (by omega);subst c2;refine aq ?_;conv=>whnf
 refine aO hq ?_;conv=>whnf
 refine ld (aK c1 (i:=0) rfl) ?_;conv=>whnf
 apply aV<;>intro h7;all_goals conv=>whnf
 ·exact⟨by rw[eN];rintro⟨_,_,h8⟩;refine h7 ?_;have:=((h8 1 (by omega)).2.2.1 rfl).2;simp[this],rfl⟩
 have N1:cs[1].fields=[1]:=Ja (by omega) h7;have RQ:cs[0].fields=[]:=List.eq_nil_of_length_eq_zero (by omega);refine fm [0,48,49,50] [] (λi:Nat=>i<=cs.length/\∀ j (hj:j < cs.length),j < i->(1 < j->0<=cs[j].bN/\cs[j].bN < j)/\cs[j].fields.length<=2/\ie cs.length cs[j].fields) (λi=>cs.length-i)
  (λi=>([.v (.slice (some ⟨b,off,none⟩) cs.length c),.v (.slice (some ⟨b,off,none⟩) cs.length c),.v (.int .i64 cs.length),.v (.int .i64 i)],[],h)) 0 ⟨by omega,λj hj h=>by omega⟩ rfl ?_
 rintro i ⟨hi,hd⟩;conv=>whnf
 apply ax<;>intro iS;all_goals conv=>whnf
 ·obtain⟨b2,GQ,q,k,d,hp,e1,e2,e3,e4,e5,e6⟩:=hr.at (i:=i) (by omega);simp only[Option.some.injEq,Addr.mk.injEq,and_true]at hp;obtain⟨rfl,rfl⟩:=hp;refine aq ?_;conv=>whnf
  refine ptr ?_;conv=>whnf
  refine dK (by simpa using e1) ?_;conv=>whnf
  have bad:¬((1 < i->0<=cs[i].bN/\cs[i].bN < i)/\cs[i].fields.length<=2/\ie cs.length cs[i].fields)->.bool false=tf (cj cs):=by
   intro h8;rw[eN];rintro⟨_,_,gH⟩;have h11:=gH i (by omega);exact h8 ⟨h11.2.2.2.1,h11.2.2.2.2,h11.1⟩
  by_cases hS:1 < i->0<=cs[i].bN/\cs[i].bN < i
  ·repeat' ((first
    | apply ax<;>intro _)<;>conv=>whnf)
   all_goals first
    | (exfalso;omega)
    | exact⟨bad (by rintro⟨_,h9,_⟩;omega),rfl⟩
    | skip
   all_goals
    refine fm [0,48,49,50,73,74,75] [] (λm:Nat=>m<=k/\∀ l (hl:l < cs[i].fields.length),l < m->cR cs.length cs[i].fields[l]) (λm=>k-m)
     (λm=>([.v (.slice (some ⟨b,off,none⟩) cs.length c),.v (.slice (some ⟨b,off,none⟩) cs.length c),.v (.int .i64 cs.length),.v (.int .i64 i),.v (.slice q k d),.v (.int .i64 k),.v (.int .i64 m)],[],h)) 0 ⟨by omega,λl hl h=>by omega⟩ rfl ?_
    rintro m ⟨hm,hg⟩;conv=>whnf
    apply ax<;>intro h8;all_goals conv=>whnf
    ·have hmk:m < cs[i].fields.length:=by omega
     have e7:=e5.get hmk;obtain⟨b2,GQ,vs,vw,f1,f2,f3⟩:=e7;subst f2;refine aq ?_;conv=>whnf
     refine aO vw ?_;conv=>whnf
     refine ld (by simpa using aK f1 (i:=0) rfl) ?_;conv=>whnf
     refine ay (qo _ _ _ (by omega) f3) ?_;conv=>whnf
     apply aV<;>intro h9;all_goals conv=>whnf
     ·exact⟨bad (by rintro⟨_,_,gH⟩;exact h9 (gH cs[i].fields[m] (List.getElem_mem _))),rfl⟩
     ·refine aj ?_;conv=>whnf
      refine dm (m+1) ⟨by omega,λl hl Yl=>?_⟩ (by omega) rfl;rcases Nat.lt_succ_iff_lt_or_eq.1 Yl with gH|rfl
      ·exact hg l hl gH
      ·exact h9
    ·refine aj ?_;conv=>whnf
     refine dm (i+1) ⟨by omega,λj hj jv=>?_⟩ (by omega) rfl;rcases Nat.lt_succ_iff_lt_or_eq.1 jv with gH|rfl
     ·exact hd j hj gH
     ·refine⟨hS,by omega,λt ht=>?_⟩;obtain⟨l,hl,rfl⟩:=List.mem_iff_getElem.1 ht;exact hg l hl (by omega)
  ·repeat' ((first
    | apply ax<;>intro _)<;>conv=>whnf)
   all_goals first
    | exact⟨bad (λh9=>hS h9.1),rfl⟩
    | (exfalso;omega)
 ·exact⟨by
   rw[lW];refine⟨by omega,by omega,λj hj=>⟨(hd j hj (by omega)).2.2,?_,?_,(hd j hj (by omega)).1,(hd j hj (by omega)).2.1⟩⟩
   ·rintro rfl;exact⟨h3,RQ⟩
   ·rintro rfl;exact⟨h5,N1⟩,rfl⟩
def GR (cs:List dR) (b:Int):Nat->Int->Bool
 | 0,_=>false
 | k+1,a=>decide (0<=a)&&(decide (a=b)||GR cs b k (bC cs a))
def up (cs:List dR) (a b:Int):Bool:=GR cs b (a.toNat+1) a
theorem cj.bN {cs:List dR} (ok:cj cs) {a:Int} (h0:0<=a) (h1:a < cs.length) : -1<=bC cs a/\bC cs a < a:=by
 have hi:a.toNat < cs.length:=by omega
 have he:=lY hi;have hsa:bC cs a=bC cs (a.toNat:Int):=by rw[Int.toNat_of_nonneg h0]
 have hc:=ok.2.2 a.toNat hi;rw[hsa,he];rcases Nat.lt_trichotomy a.toNat 1 with h|h|h
 ·have:=(hc.2.1 (by omega)).1;omega
 ·have:=(hc.2.2.1 h).1;omega
 ·have:=hc.2.2.2.1 h;omega
theorem CM {cs:List dR} (ok:cj cs) (b:Int):∀(k:Nat) (a:Int),a < cs.length->a.toNat < k->GR cs b k a=GR cs b (k+1) a
 | 0,a,_,h=>by omega
 | k+1,a,hl,h=>by
  rw[GR,GR];by_cases h0:0<=a
  ·have hs:=ok.bN h0 hl;by_cases h1:0<=bC cs a
   ·rw[CM ok b k (bC cs a) (by omega) (by omega)]
   ·have hn:∀ k,GR cs b k (bC cs a)=false:=by
     intro k;cases k with
     | zero=>rfl
     | succ k=>rw[GR];simp[h1]
    rw[hn,hn]
  ·simp[h0]
theorem FX {cs:List dR} (ok:cj cs) (b:Int) (a:Int) (hl:a < cs.length):∀(j:Nat),GR cs b (a.toNat+1+j) a=up cs a b
 | 0=>rfl
 | j+1=>by
  rw[<-FX ok b a hl j];exact(CM ok b (a.toNat+1+j) a hl (by omega)).symm
theorem qp {cs:List dR} {a b:Int} (h:a < 0):up cs a b=false:=by
 unfold up;rw[GR];simp[show ¬0<=a by omega]
theorem ig {cs:List dR} (ok:cj cs) {a b:Int} (h0:0<=a) (hl:a < cs.length):up cs a b=(decide (a=b)||up cs (bC cs a) b):=by
 have hs:=ok.bN h0 hl;conv=>lhs;unfold up
 rw[GR];simp only[h0,decide_true,Bool.true_and];by_cases h1:0<=bC cs a
 ·have:=FX ok b (bC cs a) (by omega) (a.toNat-(bC cs a).toNat-1);rw[show(bC cs a).toNat+1+(a.toNat-(bC cs a).toNat-1)=a.toNat by omega]at this;rw[this]
 ·rw[qp (by omega)];have:GR cs b a.toNat (bC cs a)=false:=by
   cases a.toNat with
   | zero=>rfl
   | succ k=>rw[GR];simp[h1]
  rw[this]
theorem Ez {cs:List dR} (ok:cj cs):∀(k:Nat) {a b:Int},a.toNat < k->a < cs.length->a < b->up cs a b=false
 | 0,a,b,h,_,_=>by omega
 | k+1,a,b,h,hl,U=>by
  by_cases h0:0<=a
  ·have hs:=ok.bN h0 hl;rw[ig ok h0 hl];by_cases h1:0<=bC cs a
   ·rw[Ez ok k (by omega) (by omega) (by omega)];simp[show a≠b by omega]
   ·rw[qp (by omega)];simp[show a≠b by omega]
  ·exact qp (by omega)
theorem fo.n {h:Heap} {p:Option Addr} {n c:Nat} {cs:List dR} (hr:fo h (.slice p n c) cs):n=cs.length:=by obtain⟨_,_,he,_⟩:=hr.len;injection he
theorem rj (p:Option Addr) (n c:Nat) (cs:List dR) (a b:Int) (h:Heap) (hr:fo h (.slice p n c) cs) (ok:cj cs) (h0 : -1<=a) (hl:a < cs.length) :
  Pure prog 65 [.slice p n c,.int .i64 a,.int .i64 b] h (.bool (up cs a b)):=by
 have hn:=hr.n;refine gN au func65 ZQ SL rfl ?_;conv=>whnf
 refine fm [0,2,7] [] (λx:Int=>-1<=x/\x < cs.length/\up cs x b=up cs a b) (λx=>(x+1).toNat)
  (λx=>([.v (.slice p n c),.v (.int .i64 b),.v (.int .i64 x)],[],h)) a ⟨h0,hl,rfl⟩ rfl ?_
 rintro x ⟨x0,x1,x2⟩;conv=>whnf
 apply ax<;>intro h1;all_goals conv=>whnf
 ·apply ax<;>intro h2;all_goals conv=>whnf
  ·exact⟨by rw[<-x2,ig ok h1 x1];simp[h2],rfl⟩
  ·have hi:x.toNat < cs.length:=by omega
   have e:=hr.at hi;obtain⟨bb,off,q,k,d,hp,_,e2,_,_,_,_⟩:=e;have hs:=ok.bN h1 x1;have CN:bC cs x=cs[x.toNat].bN:=by simp[bC,hi]
   refine aq ?_;conv=>whnf
   refine aO hp ?_;conv=>whnf
   refine ld e2 ?_;conv=>whnf
   refine dm (cs[x.toNat].bN) ⟨by omega,by omega,?_⟩ (by omega) rfl;rw[<-x2,ig ok h1 x1,CN];simp[h2]
 ·exact⟨by rw[<-x2,qp (by omega)],rfl⟩
theorem sM (p:Option Addr) (n c:Nat) (cs:List dR) (a b:Int) (h:Heap) (hr:fo h (.slice p n c) cs) (ok:cj cs) (h0 : -1<=a) (hl:a < cs.length) (U:0<=b) :
  Pure prog 94 [.slice p n c,.int .i64 a,.int .i64 b] h (.bool (up cs a b)):=by
 have hn:=hr.n;refine gN au func94 F94 aaf rfl ?_;conv=>whnf
 refine fm [0,1,2] [] (λx:Int=>-1<=x/\x < cs.length/\up cs x b=up cs a b) (λx=>(x+1).toNat)
  (λx=>([.v (.slice p n c),.v (.int .i64 x),.v (.int .i64 b)],[],h)) a ⟨h0,hl,rfl⟩ rfl ?_
 rintro x ⟨x0,x1,x2⟩;conv=>whnf
 apply ax<;>intro h1;all_goals conv=>whnf
 ·have hi:x.toNat < cs.length:=by omega
  have e:=hr.at hi;obtain⟨bb,off,q,k,d,hp,_,e2,_,_,_,_⟩:=e;have hs:=ok.bN (a:=x) (by omega) x1;have CN:bC cs x=cs[x.toNat].bN:=by simp[bC,hi]
  refine aq ?_;conv=>whnf
  refine aO hp ?_;conv=>whnf
  refine ld e2 ?_;conv=>whnf
  refine dm (cs[x.toNat].bN) ⟨by omega,by omega,?_⟩ (by omega) rfl;rw[<-x2,ig ok (a:=x) (by omega) x1,CN];simp[show x≠b by omega]
 ·refine⟨?_,rfl⟩;rw[<-x2];by_cases h2:x=b
  ·subst h2;rw[ig ok (by omega) x1];simp
  ·rw[Ez ok (x.toNat+1) (by omega) x1 (by omega)];simp[h2]
def cn (sz:Nat) (h:Heap) (v:Value) (xs:List (List Value)) (B:List Nat):Prop :=
 (∀ x∈xs,x.length=sz)/\((v=.slice none 0 0/\xs=[]/\B=[])\/∃ b c rest t,v=.slice (some ⟨b,0,none⟩) xs.length c/\xs.length<=c/\h b=some (.cells (xs.flatten++rest).toArray t (0,0))/\(xs.flatten++rest).length=c*sz/\B=[b])
theorem bQ {sz:Nat}:∀ {xs:List (List Value)},(∀ x∈xs,x.length=sz)->xs.flatten.length=xs.length*sz
 | [],_=>by simp
 | x::xs,h=>by
  simp only[List.flatten_cons,List.length_append,List.length_cons];rw[bQ (λy hy=>h y (List.mem_cons_of_mem _ hy)),h x List.mem_cons_self,Nat.succ_mul];omega
theorem gT (vs:List Value):∀(a r:List Value),vs.length<=r.length->ep (a++r) a.length vs=a++vs++r.drop vs.length:=by
 induction vs with
 | nil=>intro a r _;simp[ep]
 | cons v vs ih =>
  intro a r hr;cases r with
  | nil=>simp at hr
  | cons y r =>
   simp only[ep];have:Ly (a++y::r) a.length v=(a++[v])++r:=by
    rw[vh];simp
   rw[this];have h2:=ih (a++[v]) r (by simpa using hr);simp only[List.length_append,List.length_cons,List.length_nil,Nat.zero_add]at h2;rw[h2];simp
theorem bP {h:Heap} {b:Nat} {cs:List Value} {t:TypeId} {fz:Nat × Nat} (U:h b=some (.cells cs.toArray t fz)):∀(k off:Nat),off+k<=cs.length->eG h b off k=some ((cs.drop off).take k)
 | 0,off,_=>by simp[eG]
 | k+1,off,hl=>by
  have iS:off < cs.length:=by omega
  have e1:rd h b off=some cs[off]:=by simp[rd,U,iS]
  simp only[eG,e1,bP U k (off+1) (by omega)];rw[List.drop_eq_getElem_cons iS,List.take_succ_cons]
theorem Heap.aM {h0 h:Heap} {b:Nat} {o:Obj} (hl:h0.le h) (U:h0 b=none):h0.le (h.set b o):=by
 intro c x hx;have cD:c≠b:=by rintro rfl;rw[U]at hx;cases hx
 simp only[Heap.set,cD,if_false];exact hl c x hx
theorem cY {bytes sz:Nat} {zero:List Value} {el:TypeId} {h0 h:Heap} {p:Option Addr} {n cap:Nat} {xs ys:List (List Value)} {B:List Nat} {m:Nat} {vs:List Value} {K:Value->Heap->Prop}
  (ho:cn sz h (.slice p n cap) xs B) (hB:∀ b∈B,h0 b=none) (hle:h0.le h) (iT:vs=ys.flatten) (hm:m=ys.length) (LG:∀ y∈ys,y.length=sz) (hc:dG vs=true) (hz:zero.length=sz)
  (gI:(xs.length+ys.length)*bytes<=2 ^ 44) (eX:xs.length+ys.length<=2 ^ 44)
  (hk:∀ v' h' B',h0.le h'->cn sz h' v' (xs++ys) B'->(∀ b∈B',h0 b=none)->(∀ b,b ∉ B->h b≠none->h' b=h b)->(∀ b∈B',b∈B\/h b=none)->K v' h'):App bytes sz zero el h p n cap m vs K:=by
 subst iT hm;obtain⟨hx,ho⟩:=ho;have Jb:∀ x∈xs++ys,x.length=sz:=by
  intro x hm;rcases List.mem_append.1 hm with hm|hm
  ·exact hx x hm
  ·exact LG x hm
 have hly:=bQ LG;have FY:=bQ hx;rw[oH];unfold Aw;rcases ho with ⟨he,rfl,rfl⟩|⟨b,c,rest,t,he,gG,U,hlen,rfl⟩
 ·simp only[Value.slice.injEq]at he;obtain⟨rfl,rfl,rfl⟩:=he;refine⟨λh1=>⟨hc,?_⟩,λh1=>⟨by simpa using gI,by simpa using eX,[],⟨rfl,rfl⟩,λb c U gG=>?_⟩⟩
  ·have BT:ys=[]:=List.eq_nil_of_length_eq_zero (by omega);subst BT;exact⟨rfl,hk _ _ [] hle ⟨Jb,.inl ⟨rfl,rfl,rfl⟩⟩ (by simp) (λ_ _ _=>rfl) (by simp)⟩
  ·refine hk _ _ [b] (Heap.aM hle ?_) ⟨Jb,.inr ⟨b,c,(List.replicate (c-(0+ys.length)) zero).flatten,el,by simp,by simpa using gG,by simp[Heap.set],?_,rfl⟩⟩ ?_ ?_ ?_
   ·cases hh:h0 b with
    | none=>rfl
    | some x=>rw[hle b x hh]at U;cases U
   ·rw[List.length_append,tL,hz,List.nil_append,hly,Nat.zero_add,<-Nat.add_mul];congr 1
    omega
   ·intro b' bz;simp only[List.mem_singleton]at bz;subst bz;cases hh:h0 b' with
    | none=>rfl
    | some x=>rw[hle b' x hh]at U;cases U
   ·intro b' _ hn;have:b'≠b:=by rintro rfl;exact hn U
    simp[Heap.set,this]
   ·intro b' bz;simp only[List.mem_singleton]at bz;subst bz;exact .inr U
 ·simp only[Value.slice.injEq]at he;obtain⟨rfl,rfl,rfl⟩:=he;have lS:∀ b,h b=none->h0 b=none:=by
   intro b U;cases hh:h0 b with
   | none=>rfl
   | some x=>rw[hle b x hh]at U;cases U
  have hsz:(xs.flatten++rest).length=xs.length*sz+rest.length:=by rw[List.length_append,FY]
  refine⟨λh1=>⟨hc,(xs.flatten++rest).toArray,t,U,?_,?_⟩,λh1=>⟨gI,eX,xs.flatten,?_,λb' c' bz Of=>?_⟩⟩
  ·have:=Nat.mul_le_mul_right sz h1;rw[Nat.add_mul]at this;simp only[List.size_toArray];omega
  ·have hw:ep (xs.flatten++rest) (0+xs.length*sz) ys.flatten=(xs++ys).flatten++rest.drop ys.flatten.length:=by
    rw[Nat.zero_add,<-FY,gT]
    ·simp
    ·have:=Nat.mul_le_mul_right sz h1;rw[Nat.add_mul]at this;omega
   have sO:ys.flatten.length<=rest.length:=by
    have:=Nat.mul_le_mul_right sz h1;rw[Nat.add_mul]at this;omega
   refine hk _ _ [b] (Heap.aM hle (hB b (by simp))) ⟨Jb,.inr ⟨b,cap,rest.drop ys.flatten.length,t,by simp,by simpa using h1,?_,?_,rfl⟩⟩ ?_ ?_ ?_
   ·simp only[Heap.set,if_true];rw[<-hw]
   ·rw[<-hw,v9];exact hlen
   ·intro b' bz;exact hB b' bz
   ·intro b' hn _;have:b'≠b:=by rintro rfl;exact hn (by simp)
    simp[Heap.set,this]
   ·intro b' bz;exact .inl bz
  ·show eG h b 0 (xs.length*sz)=some xs.flatten;rw[bP U _ _ (by omega),<-FY];simp
  ·refine hk _ _ [b'] (Heap.aM hle (lS b' bz)) ⟨Jb,.inr ⟨b',c',(List.replicate (c'-(xs.length+ys.length)) zero).flatten,el,by simp,by simpa using Of,by simp[Heap.set],?_,rfl⟩⟩ ?_ ?_ ?_
   ·rw[List.length_append,tL,hz,bQ Jb,List.length_append,<-Nat.add_mul];congr 1
    omega
   ·intro b'' Jc;simp only[List.mem_singleton]at Jc;subst Jc;exact lS _ bz
   ·intro b'' _ hn;have:b''≠b':=by rintro rfl;exact hn bz
    simp[Heap.set,this]
   ·intro b'' Jc;simp only[List.mem_singleton]at Jc;subst Jc;exact .inr bz
theorem Jd {h:Heap} {b:Nat}:∀(vs:List Value) (off:Nat),(∀ i v,vs[i]? = some v->rd h b (off+i)=some v)->eG h b off vs.length=some vs
 | [],off,_=>rfl
 | v::vs,off,hx=>by
  have e1:=hx 0 v rfl;have e2:=Jd vs (off+1) (λi w hw=>by have:=hx (i+1) w (by simpa using hw);rw[show off+1+i=off+(i+1)by omega];exact this);simp only[List.length_cons,eG];rw[Nat.add_zero]at e1;rw[e1,e2]
def bO (x:Int):List Value:=[.int .i64 x]
theorem dA:∀ l:List Int,(l.map bO).flatten=l.map (.int .i64)
 | []=>rfl
 | x::l=>by simp[bO,dA l]
theorem dw:∀ l:List Int,dG (l.map (.int .i64))=true
 | []=>rfl
 | x::l=>by simp[dG,lP,dw l]
theorem qv {h:Heap} {p:Option Addr} {n c:Nat} {l:List Int} {K:List Value->Prop} (hr:cT h (.slice p n c) l) (hk:K (l.map (.int .i64))):RK h p (n*1) K:=by
 obtain⟨_,p',c',he,_,h3⟩:=hr;simp only[Value.slice.injEq]at he;obtain⟨rfl,rfl,rfl⟩:=he;rw[tG];unfold D8;rcases h3 with rfl|⟨b,off,rfl,hx⟩
 ·exact .inl ⟨.inr (by simp),hk⟩
 ·refine .inr ⟨b,off,_,rfl,?_,hk⟩;have:=Jd (h:=h) (b:=b) (l.map (.int .i64)) off (λi v hv=>by
   simp only[List.getElem?_map,Option.map_eq_some_iff]at hv;obtain⟨x,FN,rfl⟩:=hv;obtain⟨vs,h4,h5,_⟩:=hx i x FN;subst h5;have:=aK h4 (i:=0) rfl;simpa using this)
  simpa using this
abbrev dV (h:Heap) (v:Value) (l:List Int) (B:List Nat):Prop:=cn 1 h v (l.map bO) B
theorem cn.form {sz:Nat} {h:Heap} {v:Value} {xs:List (List Value)} {B:List Nat} (ho:cn sz h v xs B):∃ p c,v=.slice p xs.length c/\xs.length<=c:=by
 obtain⟨_,⟨rfl,rfl,_⟩|⟨b,c,rest,t,rfl,h1,_⟩⟩:=ho
 ·exact⟨none,0,rfl,Nat.le_refl _⟩
 ·exact⟨_,c,rfl,h1⟩
def iP (cs:List dR) (c:Int):List Int:=match cs[c.toNat]? with
 | some x=>x.fields
 | none=>[]
def CO (cs:List dR):Nat->Int->List Int
 | 0,_=>[]
 | k+1,c=>if c<=0 then []else CO cs k (bC cs c)++iP cs c
def cX (cs:List dR) (c:Int):List Int:=CO cs c.toNat c
theorem CP {cs:List dR} {c:Int} (h:c<=0) (k:Nat):CO cs k c=[]:=by
 cases k with
 | zero=>rfl
 | succ k=>rw[CO,if_pos h]
theorem eO {cs:List dR} {c:Int} (h:c<=0):cX cs c=[]:=CP h _
theorem xU {cs:List dR} (ok:cj cs):∀(k:Nat) (c:Int),c < cs.length->c.toNat<=k->CO cs k c=cX cs c
 | 0,c,_,h=>by rw[eO (by omega)];rfl
 | k+1,c,hl,h=>by
  by_cases h0:c<=0
  ·rw[CP h0,eO h0]
  ·have hs:=ok.bN (a:=c) (by omega) hl;unfold cX;obtain⟨j,hj⟩:∃ j,c.toNat=j+1:=⟨c.toNat-1,by omega⟩
   rw[hj,CO,CO,if_neg h0,if_neg h0,xU ok k _ (by omega) (by omega),xU ok j _ (by omega) (by omega)]
theorem lH {cs:List dR} (ok:cj cs) {c:Int} (h0:0 < c) (hl:c < cs.length):cX cs c=cX cs (bC cs c)++iP cs c:=by
 have hs:=ok.bN (a:=c) (by omega) hl;conv=>lhs;unfold cX
 obtain⟨j,hj⟩:∃ j,c.toNat=j+1:=⟨c.toNat-1,by omega⟩
 rw[hj,CO,if_neg (by omega),xU ok j _ (by omega) (by omega)]
theorem tU {cs:List dR} (ok:cj cs):∀(k:Nat) (c:Int),c < cs.length->c.toNat<=k->(cX cs c).length<=2*k
 | 0,c,_,h=>by rw[eO (by omega)];simp
 | k+1,c,hl,h=>by
  by_cases h0:c<=0
  ·rw[eO h0];simp
  ·have hs:=ok.bN (a:=c) (by omega) hl;have ih:=tU ok k (bC cs c) (by omega) (by omega);rw[lH ok (by omega) hl,List.length_append];have hi:c.toNat < cs.length:=by omega
   have hf:=(ok.2.2 c.toNat hi).2.2.2.2;have:(iP cs c).length<=2:=by simp only[iP,hi,List.getElem?_eq_getElem];exact hf
   omega
theorem nq:∀(k:Nat) (p:Option Addr) (n c:Nat) (cs:List dR) (x:Int) (h:Heap),fo h (.slice p n c) cs->cj cs->0<=x->x < cs.length->x.toNat < k ->
  bI prog 157 [.slice p n c,.int .i64 x] h λv h'=>h.le h'/\∃ B,dV h' v (cX cs x) B/\∀ b∈B,h b=none
 | 0,_,_,_,_,_,_,_,_,_,_,hk=>by omega
 | k+1,p,n,c,cs,x,h,hr,ok,h0,hl,hk=>by
  have hn:=hr.n;refine bS au func157 TM TN rfl ?_;conv=>whnf
  apply ax<;>intro h1;all_goals conv=>whnf
  ·exact⟨Heap.le_refl h,[],⟨by rw[eO (by omega)];simp,.inl ⟨rfl,by rw[eO (by omega)];rfl,rfl⟩⟩,by simp⟩
  ·have hi:x.toNat < cs.length:=by omega
   have e:=hr.at hi;obtain⟨bb,off,q,m,d,hp,_,e2,e3,_,e5,e6⟩:=e;have hs:=ok.bN h0 hl;have CN:bC cs x=cs[x.toNat].bN:=by simp[bC,hi]
   refine aq ?_;conv=>whnf
   refine aO hp ?_;conv=>whnf
   refine aq ?_;conv=>whnf
   refine aO hp ?_;conv=>whnf
   refine ld e3 ?_;conv=>whnf
   refine ld e2 ?_;conv=>whnf
   have ih:=nq k p n c cs (bC cs x) h hr ok (by
    have:=ok.2.1;have hc:=ok.2.2 x.toNat hi;rw[CN];rcases Nat.lt_trichotomy x.toNat 1 with g|g|g
    ·omega
    ·rw[(hc.2.2.1 g).1];omega
    ·exact(hc.2.2.2.1 g).1) (by omega) (by omega)
   rw[CN]at ih;refine cE ih ?_;rintro v h' ⟨hle,B,ho,hB⟩;refine⟨hle,?_⟩;obtain⟨p',c',rfl,oQ⟩:=ho.form;conv=>whnf
   have hlen:=tU ok x.toNat (bC cs x) (by omega) (by omega);have zU:cs[x.toNat].fields.length<=2:=(ok.2.2 x.toNat hi).2.2.2.2;rw[CN]at hlen;have LH:=ok.2.1;refine qv (e5.le hle) ?_;conv=>whnf
   refine cY (ys:=cs[x.toNat].fields.map bO) ho hB hle (dA _).symm (by simp[e6]) (by simp[bO]) (dw _) rfl (by simp;omega) (by simp;omega) ?_;intro v' zw B' g1 g2 g3 g4 g5;conv=>whnf
   refine⟨g1,B',?_,g3⟩;rw[lH ok (by omega) hl,CN];unfold dV;rw[List.map_append];simpa [iP,hi]using g2
theorem lZ:∀(k:Nat) (p:Option Addr) (n c:Nat) (cs:List dR) (x:Int) (h:Heap),fo h (.slice p n c) cs->cj cs->0<=x->x < cs.length->x.toNat < k ->
  bI prog 98 [.slice p n c,.int .i64 x] h λv h'=>h.le h'/\∃ B,dV h' v (cX cs x) B/\∀ b∈B,h b=none
 | 0,_,_,_,_,_,_,_,_,_,_,hk=>by omega
 | k+1,p,n,c,cs,x,h,hr,ok,h0,hl,hk=>by
  have hn:=hr.n;refine bS au func98 F98 aah rfl ?_;conv=>whnf
  apply ax<;>intro h1;all_goals conv=>whnf
  ·refine new λb U=>?_;conv=>whnf
   refine⟨Heap.AN _ U,[b],⟨by rw[eO (by omega)];simp,.inr ⟨b,0,[],3,by rw[eO (by omega)];rfl,by rw[eO (by omega)];simp,by rw[eO (by omega)];simp[Heap.set,tH],by rw[eO (by omega)];simp,rfl⟩⟩,by simpa using U⟩
  ·have hi:x.toNat < cs.length:=by omega
   have e:=hr.at hi;obtain⟨bb,off,q,m,d,hp,_,e2,e3,_,e5,e6⟩:=e;have hs:=ok.bN h0 hl;have CN:bC cs x=cs[x.toNat].bN:=by simp[bC,hi]
   refine aq ?_;conv=>whnf
   refine aO hp ?_;conv=>whnf
   refine aq ?_;conv=>whnf
   refine aO hp ?_;conv=>whnf
   refine ld e3 ?_;conv=>whnf
   refine ld e2 ?_;conv=>whnf
   have ih:=lZ k p n c cs (bC cs x) h hr ok (by
    have:=ok.2.1;have hc:=ok.2.2 x.toNat hi;rw[CN];rcases Nat.lt_trichotomy x.toNat 1 with g|g|g
    ·omega
    ·rw[(hc.2.2.1 g).1];omega
    ·exact(hc.2.2.2.1 g).1) (by omega) (by omega)
   rw[CN]at ih;refine cE ih ?_;rintro v h' ⟨hle,B,ho,hB⟩;refine⟨hle,?_⟩;obtain⟨p',c',rfl,oQ⟩:=ho.form;conv=>whnf
   have hlen:=tU ok x.toNat (bC cs x) (by omega) (by omega);have zU:cs[x.toNat].fields.length<=2:=(ok.2.2 x.toNat hi).2.2.2.2;rw[CN]at hlen;have LH:=ok.2.1;refine qv (e5.le hle) ?_;conv=>whnf
   refine cY (ys:=cs[x.toNat].fields.map bO) ho hB hle (dA _).symm (by simp[e6]) (by simp[bO]) (dw _) rfl (by simp;omega) (by simp;omega) ?_;intro v' zw B' g1 g2 g3 g4 g5;conv=>whnf
   refine⟨g1,B',?_,g3⟩;rw[lH ok (by omega) hl,CN];unfold dV;rw[List.map_append];simpa [iP,hi]using g2
theorem ry (p:Option Addr) (n c:Nat) (t:Int) (h:Heap) (hn:n<=140737488351232):Pure prog 155 [.slice p n c,.int .i64 t] h (tf (cR n t)):=by
 refine gN au func155 TH TJ rfl ?_;conv=>whnf
 apply ax<;>intro h1;all_goals conv=>whnf
 ·exact⟨by rw[lW];unfold cR;omega,rfl⟩
 apply ax<;>intro h2;all_goals conv=>whnf
 ·exact⟨by rw[lW];unfold cR;omega,rfl⟩
 apply ax<;>intro h3;all_goals conv=>whnf
 ·exact⟨by rw[lW];unfold cR;omega,rfl⟩
 refine aj ?_;conv=>whnf
 refine aj ?_;conv=>whnf
 refine ay (er _ _ _ _) ?_;conv=>whnf
 exact⟨(zx (by unfold cR;omega)).symm,rfl⟩
theorem GS (p:Option Addr) (n c:Nat) (cs:List dR) (i:Nat) (h:Heap) (hr:fo h (.slice p n c) cs) (hi:i < cs.length) :
  Pure prog 90 [.slice p n c,.int .i64 i] h (tf (xT cs.length i cs[i])):=by
 have hl:n<=140737488351232:=by obtain⟨_,_,he,_,h2⟩:=hr.len;injection he with _ he _;omega
 obtain rfl:=hr.n;have e:=hr.at hi;obtain⟨bb,off,q,k,d,hp,e1,e2,e3,e4,e5,e6⟩:=e;have FZ:=e5.1;refine gN au func90 F90 aab rfl ?_;conv=>whnf
 refine aq ?_;conv=>whnf
 refine aO hp ?_;conv=>whnf
 refine dK e1 ?_;conv=>whnf
 refine fm [0,1,5,6] [5] (λm:Nat=>m<=k/\∀ l (hl:l < cs[i].fields.length),l < m->cR cs.length cs[i].fields[l]) (λm=>k-m)
  (λm=>([.v (.slice p cs.length c),.v (.int .i64 i),.l 5 0,.v (.int .i64 m)],[some [.int .i64 cs[i].bN,.slice q k d]],h)) 0 ⟨by omega,λl hl h=>by omega⟩ rfl ?_
 rintro m ⟨hm,hg⟩;conv=>whnf
 apply ax<;>intro h1;all_goals conv=>whnf
 ·have hmk:m < cs[i].fields.length:=by omega
  have f:=e5.get hmk;obtain⟨b2,GQ,vs,hq,f1,f2,f3⟩:=f;subst f2;refine aq ?_;conv=>whnf
  refine aO hq ?_;conv=>whnf
  refine ld (aK f1 (i:=0) rfl) ?_;conv=>whnf
  refine ay (ry _ _ _ _ _ hl) ?_;conv=>whnf
  apply aV<;>intro h2;all_goals conv=>whnf
  ·exact⟨by rw[eN];intro h3;exact h2 (h3.1 _ (List.getElem_mem _)),rfl⟩
  ·refine aj ?_;conv=>whnf
   refine dm (m+1) ⟨by omega,λl hl Yl=>?_⟩ (by omega) rfl;rcases Nat.lt_succ_iff_lt_or_eq.1 Yl with gH|rfl
   ·exact hg l hl gH
   ·exact h2
 ·have hF:ie cs.length cs[i].fields:=by
   intro t ht;obtain⟨l,hl,rfl⟩:=List.mem_iff_getElem.1 ht;exact hg l hl (by omega)
  apply ax<;>intro h2;all_goals conv=>whnf
  ·apply ax<;>intro h3;all_goals conv=>whnf
   ·refine⟨(zx ⟨λh4=>?_,λh4=>?_⟩).symm,rfl⟩
    ·have:=(h4.2.1 (by omega)).2;simp[e6,this]
    ·have RQ:cs[i].fields=[]:=List.eq_nil_of_length_eq_zero (by omega);exact⟨hF,λ_=>⟨h3,RQ⟩,λ_=>by omega,λ_=>by omega,by simp[RQ]⟩
   ·exact⟨by rw[eN];intro h4;exact h3 (h4.2.1 (by omega)).1,rfl⟩
  apply ax<;>intro h3;all_goals conv=>whnf
  ·apply ax<;>intro h4;all_goals conv=>whnf
   ·apply ax<;>intro h5;all_goals conv=>whnf
    ·have h0k:0 < cs[i].fields.length:=by omega
     have f:=e5.get h0k;obtain⟨b2,GQ,vs,hq,f1,f2,f3⟩:=f;subst f2;refine aq ?_;conv=>whnf
     refine aO hq ?_;conv=>whnf
     refine ld (aK f1 (i:=0) rfl) ?_;conv=>whnf
     refine⟨(zx ⟨λh6=>?_,λh6=>?_⟩).symm,rfl⟩
     ·have:=(h6.2.2.1 (by omega)).2;simp[this]
     ·have N1:cs[i].fields=[1]:=Ja (by omega) h6;exact⟨hF,λ_=>by omega,λ_=>⟨h4,N1⟩,λ_=>by omega,by simp[N1]⟩
    ·exact⟨by rw[eN];intro h6;refine h5 ?_;have:=(h6.2.2.1 (by omega)).2;simp[e6,this],rfl⟩
   ·exact⟨by rw[eN];intro h6;exact h4 (h6.2.2.1 (by omega)).1,rfl⟩
  ·refine aj ?_;conv=>whnf
   refine ay (er _ _ _ _) ?_;conv=>whnf
   apply ax<;>intro h4;all_goals conv=>whnf
   ·refine⟨(zx ⟨λh5=>?_,λh5=>?_⟩).symm,rfl⟩
    ·have:=h5.2.2.2.2;omega
    ·exact⟨hF,λ_=>by omega,λ_=>by omega,λ_=>by omega,by omega⟩
   ·exact⟨by rw[eN];intro h5;refine h4 ?_;have:=h5.2.2.2.1 (by omega);omega,rfl⟩
theorem oU (p:Option Addr) (n c:Nat) (cs:List dR) (h:Heap) (hr:fo h (.slice p n c) cs):Pure prog 46 [.slice p n c] h (tf (cj cs)):=by
 have hl:n<=140737488351232:=by obtain⟨_,_,he,_,h2⟩:=hr.len;injection he with _ he _;omega
 obtain rfl:=hr.n;refine gN au func46 F46 ZH rfl ?_;conv=>whnf
 refine ay (er _ _ _ _) ?_;conv=>whnf
 apply aV<;>intro h1;all_goals conv=>whnf
 ·exact⟨by rw[eN];rintro⟨h2,h3,_⟩;omega,rfl⟩
 refine fm [0,3] [] (λi:Nat=>i<=cs.length/\∀ j (hj:j < cs.length),j < i->xT cs.length j cs[j]) (λi=>cs.length-i)
  (λi=>([.v (.slice p cs.length c),.v (.int .i64 i)],[],h)) 0 ⟨by omega,λj hj h=>by omega⟩ rfl ?_
 rintro i ⟨hi,hd⟩;conv=>whnf
 apply ax<;>intro h2;all_goals conv=>whnf
 ·have cG:i < cs.length:=by omega
  refine ay (GS p _ c cs i h hr cG) ?_;conv=>whnf
  apply aV<;>intro h3;all_goals conv=>whnf
  ·exact⟨by rw[eN];rintro⟨_,_,h4⟩;exact h3 (h4 i cG),rfl⟩
  ·refine aj ?_;conv=>whnf
   refine dm (i+1) ⟨by omega,λj hj jv=>?_⟩ (by omega) rfl;rcases Nat.lt_succ_iff_lt_or_eq.1 jv with gH|rfl
   ·exact hd j hj gH
   ·exact h3
 ·exact⟨by rw[lW];exact⟨by omega,by omega,λj hj=>hd j hj (by omega)⟩,rfl⟩
def jo (n t:Int):Prop:=(0<=t/\t<=4)\/(8<=t/\t < 8+n)
theorem Je {n t:Int} (h:¬jo n t):eA n t=.nilIface:=by
 unfold jo at h;simp only[eA];(repeat' split)<;>first|rfl|(exfalso;omega)
theorem GU {n t:Int} (h:jo n t):∃ T x,eA n t=.iface T x:=by
 unfold jo at h;simp only[eA];(repeat' split)<;>first|exact⟨_,_,rfl⟩|(exfalso;omega)
theorem CQ (n t:Int) (h:Heap) (hn:0<=n/\n<=140737488351232) (ht:cL t):∃ v,Pure prog 165 [.int .i64 n,.int .i64 t] h v/\((¬jo n t/\v=.nilIface)\/(jo n t/\∃ T x,v=.iface T x)):=by
 refine⟨_,tS n t h hn ht,?_⟩;by_cases hT:jo n t
 ·exact .inr ⟨hT,GU hT⟩
 ·exact .inl ⟨hT,Je hT⟩
theorem CR (p:Option Addr) (n c:Nat) (cs:List dR) (t:Int) (h:Heap) (hr:fo h (.slice p n c) cs):Pure prog 156 [.slice p n c,.int .i64 t] h (tf (cj cs/\jo cs.length t)):=by
 have hl:n<=140737488351232:=by obtain⟨_,_,he,_,h2⟩:=hr.len;injection he with _ he _;omega
 obtain rfl:=hr.n;refine gN au func156 TK TL rfl ?_;conv=>whnf
 refine ay (oU p _ c cs h hr) ?_;conv=>whnf
 apply ax<;>intro h1;all_goals conv=>whnf
 ·apply ax<;>intro h2;all_goals conv=>whnf
  ·exact⟨by rw[lW];exact⟨h1,by unfold jo;omega⟩,rfl⟩
  apply ax<;>intro h3;all_goals conv=>whnf
  ·exact⟨by rw[lW];exact⟨h1,by unfold jo;omega⟩,rfl⟩
  refine ay (ry p _ c t h hl) ?_;conv=>whnf
  refine⟨?_,rfl⟩;by_cases hT:cR cs.length t
  ·show tf _=_;rw[lW hT,lW];refine⟨h1,?_⟩;unfold cR at hT;unfold jo;omega
  ·show tf _=_;rw[eN hT,eN];rintro⟨_,h4⟩;unfold cR at hT;unfold jo at h4;omega
 ·exact⟨by rw[eN];exact λh2=>h1 h2.1,rfl⟩
def vz (n:Nat) (locals:Int) (s:dH):Prop :=
 (s.told=false/\s.locals=[]/\s.stack=[])\/(s.told=true/\(s.locals.length:Int)=locals/\s.stack.length<=4/\(∀ t∈s.locals,jo n t)/\∀ t∈s.stack,t≠0/\jo n t)
theorem GV (p:Option Addr) (n c:Nat) (locals:Int) (s:dH) (l k:Value) (h:Heap) (hl:n<=140737488351232) (h1:cT h l s.locals) (h2:cT h k s.stack) :
  Pure prog 135 [.slice p n c,.int .i64 locals,.agg #[.bool s.told,l,k]] h (tf (vz n locals s)):=by
 obtain⟨told,sl,ss⟩:=s;simp only at h1 h2;have b1:=h1.1;have b2:=h2.1;have f1:=h1.len;have f2:=h2.len;obtain⟨p1,c1,rfl,_,_⟩:=f1;obtain⟨p2,c2,rfl,_,_⟩:=f2;refine gN au func135 S9 Ta rfl ?_;conv=>whnf
 cases told with
 | false =>
  conv=>whnf
  apply ax<;>intro h3;all_goals conv=>whnf
  ·refine⟨(zx ⟨λh4=>?_,λh4=>?_⟩).symm,rfl⟩
   ·rcases h4 with ⟨_,_,h5⟩|⟨h5,_⟩
    ·simp only at h5;simp[h5]
    ·cases h5
   ·exact .inl ⟨rfl,List.eq_nil_of_length_eq_zero (by simpa using h3),List.eq_nil_of_length_eq_zero (by simpa using h4)⟩
  ·refine⟨?_,rfl⟩;rw[eN];rintro(⟨_,h5,_⟩|⟨h5,_⟩)
   ·simp only at h5;simp[h5]at h3
   ·cases h5
 | true =>
  conv=>whnf
  apply aV<;>intro h3;all_goals conv=>whnf
  ·refine⟨?_,rfl⟩;rw[eN];rintro(⟨h5,_⟩|⟨_,h5,_⟩)
   ·cases h5
   ·exact h3 h5
  apply ax<;>intro h4;all_goals conv=>whnf
  ·refine⟨?_,rfl⟩;rw[eN];rintro(⟨h5,_⟩|⟨_,_,h5,_⟩)
   ·cases h5
   ·simp only at h5;omega
  refine fm [0,5,36,37,38] [5] (λm:Nat=>m<=sl.length/\∀ i (hi:i < sl.length),i < m->jo n sl[i]) (λm=>sl.length-m)
   (λm=>([.v (.slice p n c),.l 5 0,.v (.slice p1 sl.length c1),.v (.int .i64 sl.length),.v (.int .i64 m)],[some [.bool true,.slice p1 sl.length c1,.slice p2 ss.length c2]],h)) 0 ⟨by omega,λl hl h=>by omega⟩ rfl ?_
  rintro m ⟨hm,hg⟩;conv=>whnf
  apply ax<;>intro h5;all_goals conv=>whnf
  ·have sw:m < sl.length:=by omega
   have g:=h1.get sw;obtain⟨bb,off,vs,hq,g1,g2,g3⟩:=g;subst g2;refine aq ?_;conv=>whnf
   refine aO hq ?_;conv=>whnf
   refine ld (aK g1 (i:=0) rfl) ?_;conv=>whnf
   have hk:=CQ n sl[m] h (by omega) g3;obtain⟨v,hk,⟨hT,rfl⟩|⟨hT,T,x,rfl⟩⟩:=hk
   ·refine ay hk ?_;conv=>whnf
    refine jd (r:=.bool true) rfl rfl (λw=>rfl) (λw=>rfl) ?_;conv=>whnf
    refine⟨?_,rfl⟩;rw[eN];rintro(⟨h6,_⟩|⟨_,_,_,h6,_⟩)
    ·cases h6
    ·exact hT (h6 _ (List.getElem_mem _))
   ·refine ay hk ?_;conv=>whnf
    refine jd (r:=.bool false) rfl rfl (λw=>rfl) (λw=>rfl) ?_;conv=>whnf
    refine aj ?_;conv=>whnf
    refine dm (m+1) ⟨by omega,λi hi DW=>?_⟩ (by omega) rfl;rcases Nat.lt_succ_iff_lt_or_eq.1 DW with gH|rfl
    ·exact hg i hi gH
    ·exact hT
  ·have hA:∀ t∈sl,jo n t:=by
    intro t ht;obtain⟨i,hi,rfl⟩:=List.mem_iff_getElem.1 ht;exact hg i hi (by omega)
   refine fm [0,49,50,51] [] (λm:Nat=>m<=ss.length/\∀ i (hi:i < ss.length),i < m->ss[i]≠0/\jo n ss[i]) (λm=>ss.length-m)
    (λm=>([.v (.slice p n c),.v (.slice p2 ss.length c2),.v (.int .i64 ss.length),.v (.int .i64 m)],[],h)) 0 ⟨by omega,λl hl h=>by omega⟩ rfl ?_
   rintro m ⟨hm,rR⟩;conv=>whnf
   apply ax<;>intro h6;all_goals conv=>whnf
   ·have sw:m < ss.length:=by omega
    have g:=h2.get sw;obtain⟨bb,off,vs,hq,g1,g2,g3⟩:=g;subst g2;refine aq ?_;conv=>whnf
    refine aO hq ?_;conv=>whnf
    refine ld (aK g1 (i:=0) rfl) ?_;conv=>whnf
    apply ax<;>intro h7;all_goals conv=>whnf
    ·refine⟨?_,rfl⟩;rw[eN];rintro(⟨h8,_⟩|⟨_,_,_,_,h8⟩)
     ·cases h8
     ·exact(h8 _ (List.getElem_mem _)).1 h7
    have hk:=CQ n ss[m] h (by omega) g3;obtain⟨v,hk,⟨hT,rfl⟩|⟨hT,T,x,rfl⟩⟩:=hk
    ·refine ay hk ?_;conv=>whnf
     refine jd (r:=.bool true) rfl rfl (λw=>rfl) (λw=>rfl) ?_;conv=>whnf
     refine⟨?_,rfl⟩;rw[eN];rintro(⟨h8,_⟩|⟨_,_,_,_,h8⟩)
     ·cases h8
     ·exact hT (h8 _ (List.getElem_mem _)).2
    ·refine ay hk ?_;conv=>whnf
     refine jd (r:=.bool false) rfl rfl (λw=>rfl) (λw=>rfl) ?_;conv=>whnf
     refine aj ?_;conv=>whnf
     refine dm (m+1) ⟨by omega,λi hi DW=>?_⟩ (by omega) rfl;rcases Nat.lt_succ_iff_lt_or_eq.1 DW with gH|rfl
     ·exact rR i hi gH
     ·exact⟨h7,hT⟩
   ·refine⟨?_,rfl⟩;rw[lW];refine .inr ⟨rfl,h3,by simp only;omega,hA,λt ht=>?_⟩;change t∈ss at ht
    obtain⟨i,hi,rfl⟩:=List.mem_iff_getElem.1 ht;exact rR i hi (by omega)
theorem EA (p:Option Addr) (n c:Nat) (cs:List dR) (locals:Int) (s:dH) (l k:Value) (h:Heap) (hr:fo h (.slice p n c) cs) (h1:cT h l s.locals) (h2:cT h k s.stack) :
  Pure prog 92 [.slice p n c,.int .i64 locals,.agg #[.bool s.told,l,k]] h (tf (cj cs/\vz cs.length locals s)):=by
 obtain rfl:=hr.n;obtain⟨told,sl,ss⟩:=s;simp only at h1 h2;have b1:=h1.1;have b2:=h2.1;have f1:=h1.len;have f2:=h2.len;obtain⟨p1,c1,rfl,_,_⟩:=f1;obtain⟨p2,c2,rfl,_,_⟩:=f2;refine gN au func92 F92 aad rfl ?_;conv=>whnf
 refine ay (oU p _ c cs h hr) ?_;conv=>whnf
 apply aV<;>intro hc;all_goals conv=>whnf
 ·exact⟨by rw[eN];exact λh2=>hc h2.1,rfl⟩
 cases told with
 | false =>
  conv=>whnf
  apply ax<;>intro h3;all_goals conv=>whnf
  ·refine⟨(zx ⟨λh4=>?_,λh4=>?_⟩).symm,rfl⟩
   ·rcases h4.2 with ⟨_,_,h5⟩|⟨h5,_⟩
    ·simp only at h5;simp[h5]
    ·cases h5
   ·exact⟨hc,.inl ⟨rfl,List.eq_nil_of_length_eq_zero (by simpa using h3),List.eq_nil_of_length_eq_zero (by simpa using h4)⟩⟩
  ·refine⟨?_,rfl⟩;rw[eN];rintro⟨_,⟨_,h5,_⟩|⟨h5,_⟩⟩
   ·simp only at h5;simp[h5]at h3
   ·cases h5
 | true =>
  conv=>whnf
  apply aV<;>intro h3;all_goals conv=>whnf
  ·refine⟨?_,rfl⟩;rw[eN];rintro⟨_,⟨h5,_⟩|⟨_,h5,_⟩⟩
   ·cases h5
   ·exact h3 h5
  apply ax<;>intro h4;all_goals conv=>whnf
  ·refine⟨?_,rfl⟩;rw[eN];rintro⟨_,⟨h5,_⟩|⟨_,_,h5,_⟩⟩
   ·cases h5
   ·simp only at h5;omega
  refine fm [0,5,7] [5] (λm:Nat=>m<=sl.length/\∀ i (hi:i < sl.length),i < m->jo cs.length sl[i]) (λm=>sl.length-m)
   (λm=>([.v (.slice p cs.length c),.l 5 0,.v (.int .i64 m)],[some [.bool true,.slice p1 sl.length c1,.slice p2 ss.length c2]],h)) 0 ⟨by omega,λl hl h=>by omega⟩ rfl ?_
  rintro m ⟨hm,hg⟩;conv=>whnf
  apply ax<;>intro h5;all_goals conv=>whnf
  ·have sw:m < sl.length:=by omega
   have g:=h1.get sw;obtain⟨bb,off,vs,hq,g1,g2,g3⟩:=g;subst g2;refine aq ?_;conv=>whnf
   refine aO hq ?_;conv=>whnf
   refine ld (aK g1 (i:=0) rfl) ?_;conv=>whnf
   refine ay (CR p _ c cs _ h hr) ?_;conv=>whnf
   apply aV<;>intro h6;all_goals conv=>whnf
   ·refine⟨?_,rfl⟩;rw[eN];rintro⟨_,⟨h7,_⟩|⟨_,_,_,h7,_⟩⟩
    ·cases h7
    ·exact h6 ⟨hc,h7 _ (List.getElem_mem _)⟩
   ·refine aj ?_;conv=>whnf
    refine dm (m+1) ⟨by omega,λi hi DW=>?_⟩ (by omega) rfl;rcases Nat.lt_succ_iff_lt_or_eq.1 DW with gH|rfl
    ·exact hg i hi gH
    ·exact h6.2
  ·have hA:∀ t∈sl,jo cs.length t:=by
    intro t ht;obtain⟨i,hi,rfl⟩:=List.mem_iff_getElem.1 ht;exact hg i hi (by omega)
   refine fm [0,5,8] [5] (λm:Nat=>m<=ss.length/\∀ i (hi:i < ss.length),i < m->ss[i]≠0/\jo cs.length ss[i]) (λm=>ss.length-m)
    (λm=>([.v (.slice p cs.length c),.l 5 0,.v (.int .i64 m)],[some [.bool true,.slice p1 sl.length c1,.slice p2 ss.length c2]],h)) 0 ⟨by omega,λl hl h=>by omega⟩ rfl ?_
   rintro m ⟨hm,rR⟩;conv=>whnf
   apply ax<;>intro h6;all_goals conv=>whnf
   ·have sw:m < ss.length:=by omega
    have g:=h2.get sw;obtain⟨bb,off,vs,hq,g1,g2,g3⟩:=g;subst g2;refine aq ?_;conv=>whnf
    refine aO hq ?_;conv=>whnf
    refine ld (aK g1 (i:=0) rfl) ?_;conv=>whnf
    refine ay (CR p _ c cs _ h hr) ?_;conv=>whnf
    apply aV<;>intro h7;all_goals conv=>whnf
    ·refine⟨?_,rfl⟩;rw[eN];rintro⟨_,⟨h8,_⟩|⟨_,_,_,_,h8⟩⟩
     ·cases h8
     ·exact h7 ⟨hc,(h8 _ (List.getElem_mem _)).2⟩
    refine aq ?_;conv=>whnf
    refine aO hq ?_;conv=>whnf
    refine ld (aK g1 (i:=0) rfl) ?_;conv=>whnf
    apply ax<;>intro h8;all_goals conv=>whnf
    ·refine⟨?_,rfl⟩;rw[eN];rintro⟨_,⟨h9,_⟩|⟨_,_,_,_,h9⟩⟩
     ·cases h9
     ·exact(h9 _ (List.getElem_mem _)).1 h8
    ·refine aj ?_;conv=>whnf
     refine dm (m+1) ⟨by omega,λi hi DW=>?_⟩ (by omega) rfl;rcases Nat.lt_succ_iff_lt_or_eq.1 DW with gH|rfl
     ·exact rR i hi gH
     ·exact⟨h8,h7.2⟩
   ·refine⟨?_,rfl⟩;rw[lW];refine⟨hc,.inr ⟨rfl,h3,by simp only;omega,hA,λt ht=>?_⟩⟩;change t∈ss at ht
    obtain⟨i,hi,rfl⟩:=List.mem_iff_getElem.1 ht;exact rR i hi (by omega)
def bX (m:cB):List Int:=(if 0<=m.cls then [8+m.cls]else [])++m.args
theorem MC (vs:List Value) (m:cB) (h:Heap) (hm:ee h vs m) (U:8+m.cls<=9223372036854775807) (hl:m.args.length<=1000000) :
  bI prog 133 [.agg ⟨vs⟩] h λv h'=>h.le h'/\∃ B,dV h' v (bX m) B/\∀ b∈B,h b=none:=by
 obtain⟨a,c,s,k,rfl,h1,_,_,_,h2,_⟩:=hm;have f:=h2.len;obtain⟨p1,c1,rfl,_,_⟩:=f;refine bS au func133 S5 S6 rfl ?_;conv=>whnf
 apply ax<;>intro h3;all_goals conv=>whnf
 ·refine aj ?_;conv=>whnf
  refine cY (h0:=h) (xs:=[]) (ys:=[bO (8+m.cls)]) (B:=[]) ⟨by simp,.inl ⟨rfl,rfl,rfl⟩⟩ (by simp) (Heap.le_refl h) rfl rfl (by simp[bO]) rfl rfl (by simp) (by simp) ?_;intro v' h' B' g1 g2 g3 g4 g5;have ff:=g2.form;obtain⟨p',c',rfl,oQ⟩:=ff;conv=>whnf
  refine qv (h2.le g1) ?_;conv=>whnf
  refine cY (ys:=m.args.map bO) g2 g3 g1 (dA _).symm (by simp) (by simp[bO]) (dw _) rfl (by simp;omega) (by simp;omega) ?_;intro v'' zw B'' k1 k2 k3 k4 k5;conv=>whnf
  refine⟨k1,B'',?_,k3⟩;unfold dV bX;rw[if_pos h3];simpa using k2
 ·refine qv h2 ?_;conv=>whnf
  refine cY (h0:=h) (xs:=[]) (ys:=m.args.map bO) (B:=[]) ⟨by simp,.inl ⟨rfl,rfl,rfl⟩⟩ (by simp) (Heap.le_refl h) (dA _).symm (by simp) (by simp[bO]) (dw _) rfl (by simp;omega) (by simp;omega) ?_;intro v'' zw B'' k1 k2 k3 k4 k5;conv=>whnf
  refine⟨k1,B'',?_,k3⟩;unfold dV bX;rw[if_neg h3];simpa using k2
def eY (n:Nat) (m:cB):Prop :=
 ((m.cls = -1/\m.eL=0)\/(0 < m.cls/\m.cls < n/\0<=m.eL/\m.eL < 3))/\m.args.length<=2/\cR n m.out/\ie n m.args/\m.locals<=3/\(bX m).length<=m.locals
theorem Jf (us vs:List Value) (u:aU) (m:cB) (h:Heap) (hu:dL h us u) (hm:ee h vs m):Pure prog 79 [.agg ⟨us⟩,.agg ⟨vs⟩] h (tf (eY u.J.length m)):=by
 have Ii:=hm;obtain⟨a,c,s,k,rfl,h1,h2,h3,h4,h5,h6,h7,h8⟩:=hm;obtain⟨cv,mv,rfl,hcs,fM⟩:=hu;have hl:=hcs.1;have f:=hcs.len;obtain⟨p,cc,rfl,_,_⟩:=f;have f:=h5.len;obtain⟨p1,c1,rfl,_,_⟩:=f;have f:=fM.len;obtain⟨p2,c2,rfl,_,_⟩:=f;have f:=h6.len;obtain⟨p3,c3,rfl,_,_⟩:=f;have f:=h7.len;obtain⟨p4,c4,rfl,_,_⟩:=f;have f:=h8.len;obtain⟨p5,c5,rfl,_,_⟩:=f;have no:¬eY u.J.length m->.bool false=tf (eY u.J.length m):=λhx=>(eN hx).symm;refine GN au func79 F79 Z1 rfl ?_;conv=>whnf
 repeat' ((first
  | apply ax<;>intro _
  | apply aV<;>intro _
  | refine ay (vu _ _ _ _ _) ?_)<;>conv=>whnf)
 all_goals first
  | (exfalso;omega)
  | exact⟨no (by intro hx;have FN:=hx.1;have Ew:=hx.2.1;omega),Heap.le_refl h⟩
  | skip
 all_goals
  refine ay (qo _ _ _ (by omega) h3) ?_;conv=>whnf
  apply aV<;>intro g1;all_goals conv=>whnf
  ·exact⟨no (λhx=>g1 hx.2.2.1),Heap.le_refl h⟩
  refine fm [2,3,48,49,50] [2,3] (λi:Nat=>i<=m.args.length/\∀ j (hj:j < m.args.length),j < i->cR u.J.length m.args[j]) (λi=>m.args.length-i)
   (λi=>([.l 2 0,.l 3 0,.v (.slice p1 m.args.length c1),.v (.int .i64 m.args.length),.v (.int .i64 i)],
    [some [.slice p u.J.length cc,.slice p2 u.methods.length c2],some [.int .i64 m.cls,.int .i64 m.eL,.slice p1 m.args.length c1,.int .i64 m.out,.int .i64 m.locals,.slice p3 m.code.length c3,.slice p4 m.aL.length c4,.slice p5 m.catches.length c5]],h)) 0 ⟨by omega,λl hl h=>by omega⟩ rfl ?_
  rintro i ⟨hi,hg⟩;conv=>whnf
  apply ax<;>intro g2;all_goals conv=>whnf
  ·have sw:i < m.args.length:=by omega
   have g:=h5.get sw;obtain⟨bb,off,vs,hq,e1,e2,e3⟩:=g;subst e2;refine aq ?_;conv=>whnf
   refine aO hq ?_;conv=>whnf
   refine ld (aK e1 (i:=0) rfl) ?_;conv=>whnf
   refine ay (qo _ _ _ (by omega) e3) ?_;conv=>whnf
   apply aV<;>intro g3;all_goals conv=>whnf
   ·exact⟨no (λhx=>g3 (hx.2.2.2.1 _ (List.getElem_mem _))),Heap.le_refl h⟩
   ·refine aj ?_;conv=>whnf
    refine dm (i+1) ⟨by omega,λj hj jv=>?_⟩ (by omega) rfl;rcases Nat.lt_succ_iff_lt_or_eq.1 jv with gH|rfl
    ·exact hg j hj gH
    ·exact g3
  ·have hA:ie u.J.length m.args:=by
    intro t ht;obtain⟨j,hj,rfl⟩:=List.mem_iff_getElem.1 ht;exact hg j hj (by omega)
   apply ax<;>intro g3;all_goals conv=>whnf
   ·refine cE (MC _ m h Ii (by omega) (by omega)) ?_;rintro v h' ⟨hle,B,ho,hB⟩;refine⟨hle,?_⟩;have ff:=ho.form;obtain⟨p',c',rfl,oQ⟩:=ff;conv=>whnf
    refine⟨(zx ⟨λhx=>?_,λhx=>?_⟩).symm,hle⟩
    ·have:=hx.2.2.2.2.2;simpa using this
    ·exact⟨by omega,by omega,g1,hA,by omega,by simpa using hx⟩
   ·exact⟨no (λhx=>g3 hx.2.2.2.2.1),Heap.le_refl h⟩
theorem Jg (us vs:List Value) (u:aU) (m:cB) (h:Heap) (hu:dL h us u) (hm:ee h vs m):Pure prog 91 [.agg ⟨us⟩,.agg ⟨vs⟩] h (tf (eY u.J.length m)):=by
 obtain⟨a,c,s,k,rfl,h1,h2,h3,h4,h5,h6,h7,h8⟩:=hm;obtain⟨cv,mv,rfl,hcs,fM⟩:=hu;have hl:=hcs.1;have qw:=h5.1;have f:=hcs.len;obtain⟨p,cc,rfl,_,_⟩:=f;have f:=h5.len;obtain⟨p1,c1,rfl,_,_⟩:=f;have f:=fM.len;obtain⟨p2,c2,rfl,_,_⟩:=f;have f:=h6.len;obtain⟨p3,c3,rfl,_,_⟩:=f;have f:=h7.len;obtain⟨p4,c4,rfl,_,_⟩:=f;have f:=h8.len;obtain⟨p5,c5,rfl,_,_⟩:=f;have no:¬eY u.J.length m->.bool false=tf (eY u.J.length m):=λhx=>(eN hx).symm;have hG:((bX m).length:Int)=(if 0<=m.cls then 1 else 0)+m.args.length:=by
  unfold bX;split<;>simp
  omega
 refine gN au func91 F91 aac rfl ?_;conv=>whnf
 apply ax<;>intro d0;all_goals conv=>whnf
 all_goals
  simp only[d0,if_true,if_false]at hG;apply ax<;>intro d1;all_goals conv=>whnf
  ·exact⟨no (by intro hx;have:=hx.1;omega),rfl⟩
  refine aj ?_;conv=>whnf
  refine ay (er _ _ _ _) ?_;conv=>whnf
  apply aV<;>intro d2;all_goals conv=>whnf
  ·exact⟨no (by intro hx;have:=hx.1;omega),rfl⟩
  apply ax<;>intro d3;all_goals conv=>whnf
  ·exact⟨no (by intro hx;have:=hx.2.1;omega),rfl⟩
  refine ay (ry _ _ _ _ _ hl) ?_;conv=>whnf
  apply aV<;>intro d4;all_goals conv=>whnf
  ·exact⟨no (λhx=>d4 hx.2.2.1),rfl⟩
  refine aj ?_;conv=>whnf
  refine ay (er _ _ _ _) ?_;conv=>whnf
  apply aV<;>intro d5;all_goals conv=>whnf
  ·exact⟨no (by intro hx;have:=hx.2.2.2.2;omega),rfl⟩
  refine fm [2,3,6] [2,3] (λi:Nat=>i<=m.args.length/\∀ j (hj:j < m.args.length),j < i->cR u.J.length m.args[j]) (λi=>m.args.length-i)
   (λi=>([.l 2 0,.l 3 0,.v (.int .i64 i)],
    [some [.slice p u.J.length cc,.slice p2 u.methods.length c2],some [.int .i64 m.cls,.int .i64 m.eL,.slice p1 m.args.length c1,.int .i64 m.out,.int .i64 m.locals,.slice p3 m.code.length c3,.slice p4 m.aL.length c4,.slice p5 m.catches.length c5]],h)) 0 ⟨by omega,λl hl h=>by omega⟩ rfl ?_
  rintro i ⟨hi,hg⟩;conv=>whnf
  apply ax<;>intro g2;all_goals conv=>whnf
  ·have sw:i < m.args.length:=by omega
   have g:=h5.get sw;obtain⟨bb,off,vs,hq,e1,e2,e3⟩:=g;subst e2;refine aq ?_;conv=>whnf
   refine aO hq ?_;conv=>whnf
   refine ld (aK e1 (i:=0) rfl) ?_;conv=>whnf
   refine aT (ry _ _ _ _ _ hl) ?_;conv=>whnf
   apply aV<;>intro g3;all_goals conv=>whnf
   ·exact⟨no (λhx=>g3 (hx.2.2.2.1 _ (List.getElem_mem _))),rfl⟩
   ·refine aj ?_;conv=>whnf
    refine dm (i+1) ⟨by omega,λj hj jv=>?_⟩ (by omega) rfl;rcases Nat.lt_succ_iff_lt_or_eq.1 jv with gH|rfl
    ·exact hg j hj gH
    ·exact g3
  ·have hA:ie u.J.length m.args:=by
    intro t ht;obtain⟨j,hj,rfl⟩:=List.mem_iff_getElem.1 ht;exact hg j hj (by omega)
   apply ax<;>intro g3;all_goals conv=>whnf
   ·first
     | (exfalso;omega)
     | (
      refine ay (er _ _ _ _) ?_;conv=>whnf
      apply ax<;>intro g4;all_goals conv=>whnf
      ·exact⟨(lW ⟨by omega,by omega,d4,hA,by omega,by omega⟩).symm,rfl⟩
      ·apply ax<;>intro g5;all_goals conv=>whnf
       ·exfalso;omega
       ·exact⟨no (by intro hx;have:=hx.1;omega),rfl⟩)
   ·first
     | (exfalso;omega)
     | (
      apply ax<;>intro g5;all_goals conv=>whnf
      ·refine⟨(zx ⟨λhx=>?_,λhx=>?_⟩).symm,rfl⟩
       ·have:=hx.1;omega
       ·exact⟨by omega,by omega,d4,hA,by omega,by omega⟩
      ·exfalso;omega)
def eB (a b:Int):Value:=.agg #[.int .i64 a,.int .i64 b]
def jR:List (Int × Value):=[(1,eB 1 0),(2,eB 0 0),(3,eB 2 0),(4,eB 2 0),(5,eB 0 0),(6,eB 0 0),(7,eB 3 0),(8,eB 4 0),(9,eB 4 0),(10,eB 4 0),(11,eB 4 0),(12,eB 5 0),(13,eB 6 0),(14,eB 0 0),(15,eB 6 0),(16,eB 6 0),(17,eB 5 8),(18,eB 5 8),(19,eB 5 0),(20,eB 7 0),(21,eB 5 9),(22,eB 0 0),(23,eB 0 0),(24,eB 0 0)]
theorem MD (h:Heap):bI prog 78 [] h λv h'=>∃ b,v=.map (some b)/\h b=none/\h'=h.set b (pZ jR):=by
 refine bS au func78 F78 Z0 rfl ?_;conv=>whnf
 refine PE (λb U=>?_);conv=>whnf
 repeat' (refine Ms rfl rfl rfl (λw=>rfl) (λw=>rfl) rfl ?_;conv=>whnf)
 exact⟨b,rfl,U,rfl⟩
def VN:cB:=⟨0,0,[],0,0,[],[],[]⟩
def br (u:aU) (n:Int):cB:=u.methods.getD n.toNat VN
theorem gv {u:aU} {n:Int} {i:Nat} (hi:i < u.methods.length) (hn:n=i):br u n=u.methods[i]:=by
 subst hn;simp[br,hi]
theorem dL.form {h:Heap} {us:List Value} {u:aU} (hu:dL h us u):∃ p c q d,us=[.slice p u.J.length c,.slice q u.methods.length d]/\fo h (.slice p u.J.length c) u.J/\Row 8 ee h (.slice q u.methods.length d) u.methods /\
  u.J.length<=140737488351232/\u.methods.length<=140737488351232:=by
 obtain⟨cv,mv,rfl,hcs,fM⟩:=hu;obtain⟨p,cc,rfl,_,h1⟩:=hcs.len;obtain⟨p2,c2,rfl,_,h2⟩:=fM.len;exact⟨p,cc,p2,c2,rfl,hcs,fM,h1,h2⟩
theorem ee.form {h:Heap} {vs:List Value} {m:cB} (hm:ee h vs m):∃ p1 c1 p2 c2 p3 c3 p4 c4,vs=[.int .i64 m.cls,.int .i64 m.eL,.slice p1 m.args.length c1,.int .i64 m.out,.int .i64 m.locals,.slice p2 m.code.length c2,.slice p3 m.aL.length c3,.slice p4 m.catches.length c4] /\
  cL m.cls/\cL m.eL/\cL m.out/\cL m.locals/\cT h (.slice p1 m.args.length c1) m.args/\Row 3 CH h (.slice p2 m.code.length c2) m.code/\Row 3 lV h (.slice p3 m.aL.length c3) m.aL/\Row 4 CI h (.slice p4 m.catches.length c4) m.catches /\
  m.args.length<=140737488351232/\m.code.length<=140737488351232/\m.aL.length<=140737488351232/\m.catches.length<=140737488351232:=by
 obtain⟨a,c,s,k,rfl,h1,h2,h3,h4,h5,h6,h7,h8⟩:=hm;obtain⟨p1,c1,rfl,_,b1⟩:=h5.len;obtain⟨p2,c2,rfl,_,b2⟩:=h6.len;obtain⟨p3,c3,rfl,_,b3⟩:=h7.len;obtain⟨p4,c4,rfl,_,b4⟩:=h8.len;exact⟨p1,c1,p2,c2,p3,c3,p4,c4,rfl,h1,h2,h3,h4,h5,h6,h7,h8,b1,b2,b3,b4⟩
def bA (u:aU) (m:cB) (a:Int) (jC n:Int):Prop :=
 if jC=1 then isWord n=true
 else if jC=2 then 0<=n/\n < m.locals
 else if jC=3 then 1<=n/\n<=4
 else if jC=4 then 0<=n/\n < m.code.length
 else if jC=5 then 0<=n/\n < u.J.length
 else if jC=6 then n=0\/n=1
 else if jC=7 then (0<=n/\n < u.methods.length)/\(br u n).cls = -1
 else if jC=8 then 0<=n/\n < (cX u.J a).length
 else if jC=9 then 0<=n/\n < 3
 else n=0
theorem wv (us ms:List Value) (u:aU) (m:cB) (k a b jC n:Int) (h:Heap) (hu:dL h us u) (hm:ee h ms m) (ok:cj u.J) (ha:jC=8->0<=a/\a < u.J.length) :
  Pure prog 134 [.agg ⟨us⟩,.agg ⟨ms⟩,.agg #[.int .i64 k,.int .i64 a,.int .i64 b],.int .i64 jC,.int .i64 n] h (tf (bA u m a jC n)):=by
 obtain⟨p,cc,q,d,rfl,hcs,fM,jN,hl2⟩:=hu.form;obtain⟨p1,c1,p2,c2,p3,c3,p4,c4,rfl,h1,h2,h3,h4,h5,h6,h7,h8,b1,b2,b3,b4⟩:=hm.form;refine GN au func134 S7 S8 rfl ?_;conv=>whnf
 apply ax<;>intro w1;all_goals conv=>whnf
 ·refine ay (CK _ _) ?_;conv=>whnf
  exact⟨by simp[bA,w1,tf],Heap.le_refl h⟩
 apply ax<;>intro w2;all_goals conv=>whnf
 ·repeat' ((first|refine b8 ?_|refine bL ?_|refine cU ?_|refine cF ?_|apply ax<;>intro _|apply aV<;>intro _|apply dS<;>intro _|apply bY<;>intro _|refine aq ?_|refine aj ?_|refine ptr ?_)<;>conv=>whnf)
  all_goals first|(exfalso;omega)|exact⟨lX (by (try simp only[bA,w2,if_true,if_false])<;>first|omega|(simp;omega)|simp),Heap.le_refl h⟩|exact⟨jQ (by (try simp only[bA,w2,if_true,if_false])<;>first|omega|(simp;omega)|simp),Heap.le_refl h⟩|exact⟨iO (by (try simp only[bA,w2,if_true,if_false])<;>first|omega|(simp;omega)|simp),Heap.le_refl h⟩
 apply ax<;>intro w3;all_goals conv=>whnf
 ·repeat' ((first|refine b8 ?_|refine bL ?_|refine cU ?_|refine cF ?_|apply ax<;>intro _|apply aV<;>intro _|apply dS<;>intro _|apply bY<;>intro _|refine aq ?_|refine aj ?_|refine ptr ?_)<;>conv=>whnf)
  all_goals first|(exfalso;omega)|exact⟨lX (by (try simp only[bA,w3,if_true,if_false])<;>first|omega|(simp;omega)|simp),Heap.le_refl h⟩|exact⟨jQ (by (try simp only[bA,w3,if_true,if_false])<;>first|omega|(simp;omega)|simp),Heap.le_refl h⟩|exact⟨iO (by (try simp only[bA,w3,if_true,if_false])<;>first|omega|(simp;omega)|simp),Heap.le_refl h⟩
 apply ax<;>intro w4;all_goals conv=>whnf
 ·repeat' ((first|refine b8 ?_|refine bL ?_|refine cU ?_|refine cF ?_|apply ax<;>intro _|apply aV<;>intro _|apply dS<;>intro _|apply bY<;>intro _|refine aq ?_|refine aj ?_|refine ptr ?_)<;>conv=>whnf)
  all_goals first|(exfalso;omega)|exact⟨lX (by (try simp only[bA,w4,if_true,if_false])<;>first|omega|(simp;omega)|simp),Heap.le_refl h⟩|exact⟨jQ (by (try simp only[bA,w4,if_true,if_false])<;>first|omega|(simp;omega)|simp),Heap.le_refl h⟩|exact⟨iO (by (try simp only[bA,w4,if_true,if_false])<;>first|omega|(simp;omega)|simp),Heap.le_refl h⟩
 apply ax<;>intro w5;all_goals conv=>whnf
 ·refine ay (vu _ _ _ _ _) ?_;conv=>whnf
  exact⟨by simp[bA,w5],Heap.le_refl h⟩
 apply ax<;>intro w6;all_goals conv=>whnf
 ·repeat' ((first|refine b8 ?_|refine bL ?_|refine cU ?_|refine cF ?_|apply ax<;>intro _|apply aV<;>intro _|apply dS<;>intro _|apply bY<;>intro _|refine aq ?_|refine aj ?_|refine ptr ?_)<;>conv=>whnf)
  all_goals first|(exfalso;omega)|exact⟨lX (by (try simp only[bA,w6,if_true,if_false])<;>first|omega|(simp;omega)|simp),Heap.le_refl h⟩|exact⟨jQ (by (try simp only[bA,w6,if_true,if_false])<;>first|omega|(simp;omega)|simp),Heap.le_refl h⟩|exact⟨iO (by (try simp only[bA,w6,if_true,if_false])<;>first|omega|(simp;omega)|simp),Heap.le_refl h⟩
 apply ax<;>intro w7;all_goals conv=>whnf
 ·apply ax<;>intro g1;all_goals conv=>whnf
  ·apply ax<;>intro g2;all_goals conv=>whnf
   ·have hi:n.toNat < u.methods.length:=by omega
    have e:=fM.get hi;obtain⟨bb,off,vs,hq,e1,e2⟩:=e;obtain⟨_,_,_,_,e3,_⟩:=e2;subst e3;refine aq ?_;conv=>whnf
    refine aO hq ?_;conv=>whnf
    refine ld (aK e1 (i:=0) rfl) ?_;conv=>whnf
    have mY:br u n=u.methods[n.toNat]:=gv hi (by omega);first|(exfalso;omega)|exact⟨lX (by (try simp only[bA,w7,if_true,if_false,mY])<;>first|omega|(simp;omega)|simp),Heap.le_refl h⟩|exact⟨jQ (by (try simp only[bA,w7,if_true,if_false,mY])<;>first|omega|(simp;omega)|simp),Heap.le_refl h⟩|exact⟨iO (by (try simp only[bA,w7,if_true,if_false,mY])<;>first|omega|(simp;omega)|simp),Heap.le_refl h⟩
   ·first|(exfalso;omega)|exact⟨lX (by (try simp only[bA,w7,if_true,if_false])<;>first|omega|(simp;omega)|simp),Heap.le_refl h⟩|exact⟨jQ (by (try simp only[bA,w7,if_true,if_false])<;>first|omega|(simp;omega)|simp),Heap.le_refl h⟩|exact⟨iO (by (try simp only[bA,w7,if_true,if_false])<;>first|omega|(simp;omega)|simp),Heap.le_refl h⟩
  ·first|(exfalso;omega)|exact⟨lX (by (try simp only[bA,w7,if_true,if_false])<;>first|omega|(simp;omega)|simp),Heap.le_refl h⟩|exact⟨jQ (by (try simp only[bA,w7,if_true,if_false])<;>first|omega|(simp;omega)|simp),Heap.le_refl h⟩|exact⟨iO (by (try simp only[bA,w7,if_true,if_false])<;>first|omega|(simp;omega)|simp),Heap.le_refl h⟩
 apply ax<;>intro w8;all_goals conv=>whnf
 ·apply ax<;>intro g1;all_goals conv=>whnf
  ·refine aD (nq _ _ _ _ _ _ _ hcs ok (ha w8).1 (ha w8).2 (Nat.lt_succ_self _)) ?_;rintro v h' ⟨hle,B,ho,_⟩;have ff:=ho.form;obtain⟨p',c',rfl,oQ⟩:=ff;conv=>whnf
   exact⟨lX (by simp only[bA,w8,if_true,if_false];simp;omega),hle⟩
  ·first|(exfalso;omega)|exact⟨lX (by (try simp only[bA,w8,if_true,if_false])<;>first|omega|(simp;omega)|simp),Heap.le_refl h⟩|exact⟨jQ (by (try simp only[bA,w8,if_true,if_false])<;>first|omega|(simp;omega)|simp),Heap.le_refl h⟩|exact⟨iO (by (try simp only[bA,w8,if_true,if_false])<;>first|omega|(simp;omega)|simp),Heap.le_refl h⟩
 apply ax<;>intro w9;all_goals conv=>whnf
 ·repeat' ((first|refine b8 ?_|refine bL ?_|refine cU ?_|refine cF ?_|apply ax<;>intro _|apply aV<;>intro _|apply dS<;>intro _|apply bY<;>intro _|refine aq ?_|refine aj ?_|refine ptr ?_)<;>conv=>whnf)
  all_goals first|(exfalso;omega)|exact⟨lX (by (try simp only[bA,w9,if_true,if_false])<;>first|omega|(simp;omega)|simp),Heap.le_refl h⟩|exact⟨jQ (by (try simp only[bA,w9,if_true,if_false])<;>first|omega|(simp;omega)|simp),Heap.le_refl h⟩|exact⟨iO (by (try simp only[bA,w9,if_true,if_false])<;>first|omega|(simp;omega)|simp),Heap.le_refl h⟩
 first|(exfalso;omega)|exact⟨lX (by (try simp only[bA,w1,w2,w3,w4,w5,w6,w7,w8,w9,if_true,if_false])<;>first|omega|(simp;omega)|simp),Heap.le_refl h⟩|exact⟨jQ (by (try simp only[bA,w1,w2,w3,w4,w5,w6,w7,w8,w9,if_true,if_false])<;>first|omega|(simp;omega)|simp),Heap.le_refl h⟩|exact⟨iO (by (try simp only[bA,w1,w2,w3,w4,w5,w6,w7,w8,w9,if_true,if_false])<;>first|omega|(simp;omega)|simp),Heap.le_refl h⟩
theorem rz (k:Int) (v:Value):∀ {l:List (Int × Value)} {i j:Nat},ko k l i=some (j,v)->(k,v)∈l
 | [],_,_,h=>by cases h
 | (m,x)::l,i,j,h=>by
  rw[ko]at h;split at h
  ·rename_i hk;subst hk;cases h;exact List.mem_cons_self
  ·exact List.mem_cons_of_mem _ (rz k v h)
def sx (k:Int):Option (Int × Int):=match ko k jR 0 with
 | some (_,.agg ⟨[.int _ a,.int _ b]⟩)=>some (a,b)
 | _=>none
theorem EB (k:Int):(ko k jR 0=none/\sx k=none)\/∃ i a b,ko k jR 0=some (i,eB a b)/\sx k=some (a,b)/\(b=0\/a=5)/\a≠8:=by
 have key:ko k jR 0=none\/∃ i a b,ko k jR 0=some (i,eB a b)/\(b=0\/a=5)/\a≠8:=by
  cases hf:ko k jR 0 with
  | none=>exact .inl rfl
  | some q =>
   obtain⟨i,v⟩:=q;have hm:=rz k v hf;simp only[jR,List.mem_cons,List.not_mem_nil,or_false,Prod.mk.injEq]at hm;rcases hm with ⟨_,rfl⟩|⟨_,rfl⟩|⟨_,rfl⟩|⟨_,rfl⟩|⟨_,rfl⟩|⟨_,rfl⟩|⟨_,rfl⟩|⟨_,rfl⟩|⟨_,rfl⟩|⟨_,rfl⟩|⟨_,rfl⟩|⟨_,rfl⟩|⟨_,rfl⟩|⟨_,rfl⟩|⟨_,rfl⟩|⟨_,rfl⟩|⟨_,rfl⟩|⟨_,rfl⟩|⟨_,rfl⟩|⟨_,rfl⟩|⟨_,rfl⟩|⟨_,rfl⟩|⟨_,rfl⟩|⟨_,rfl⟩;all_goals refine .inr ⟨_,_,_,rfl,?_,?_⟩<;>decide
 rcases key with h|⟨i,a,b,h,h2⟩
 ·exact .inl ⟨h,by simp[sx,h]⟩
 ·exact .inr ⟨i,a,b,h,by simp[sx,h,eB],h2⟩
def eH (u:aU) (m:cB) (x:dX):Prop:=∃ a b,sx x.kind=some (a,b)/\bA u m x.a a x.a/\bA u m x.a b x.b
def zV (u:aU) (m:cB):Prop:=1<=m.code.length/\m.code.length<=12/\m.aL.length=m.code.length/\(∀ x∈m.code,eH u m x)/\∀ s∈m.aL,vz u.J.length m.locals s
theorem Jh (us ms:List Value) (u:aU) (m:cB) (b:Nat) (h:Heap) (hu:dL h us u) (hm:ee h ms m) (ok:cj u.J) (U:h b=some (pZ jR)) :
  Pure prog 80 [.agg ⟨us⟩,.agg ⟨ms⟩,.map (some b)] h (tf (zV u m)):=by
 have iJ:=hu;have Ii:=hm;obtain⟨p,cc,q,d,rfl,hcs,fM,jN,hl2⟩:=hu.form;obtain⟨p1,c1,p2,c2,p3,c3,p4,c4,rfl,h1,h2,h3,h4,h5,h6,h7,h8,b1,b2,b3,b4⟩:=hm.form;have no:¬zV u m->.bool false=tf (zV u m):=λhx=>(eN hx).symm;refine gN au func80 F80 Z2 rfl ?_;conv=>whnf
 repeat' ((first|refine b8 ?_|refine bL ?_|refine cU ?_|refine cF ?_|apply ax<;>intro _|apply aV<;>intro _|apply dS<;>intro _|apply bY<;>intro _|refine aq ?_|refine aj ?_|refine ptr ?_)<;>conv=>whnf)
 all_goals first|exact⟨no (by intro hx;have:=hx.1;have:=hx.2.1;have:=hx.2.2.1;omega),rfl⟩|skip
 refine fm [2,3,4,33,34,35] [3,4] (λi:Nat=>i<=m.code.length/\∀ j (hj:j < m.code.length),j < i->eH u m m.code[j]) (λi=>m.code.length-i)
  (λi=>([.v (.map (some b)),.l 3 0,.l 4 0,.v (.slice p2 m.code.length c2),.v (.int .i64 m.code.length),.v (.int .i64 i)],
   [some [.slice p u.J.length cc,.slice q u.methods.length d],some [.int .i64 m.cls,.int .i64 m.eL,.slice p1 m.args.length c1,.int .i64 m.out,.int .i64 m.locals,.slice p2 m.code.length c2,.slice p3 m.aL.length c3,.slice p4 m.catches.length c4]],h)) 0 ⟨by omega,λl hl h=>by omega⟩ rfl ?_
 rintro i ⟨hi,hg⟩;conv=>whnf
 apply ax<;>intro g2;all_goals conv=>whnf
 ·have sw:i < m.code.length:=by omega
  have e:=h6.get sw;obtain⟨bb,off,vs,hq,e1,e2,e3,e4,e5⟩:=e;subst e2;have bad:¬eH u m m.code[i]->Value.bool false=tf (zV u m):=λhx=>no (λhy=>hx (hy.2.2.2.1 _ (List.getElem_mem _)));refine aq ?_;conv=>whnf
  refine aO hq ?_;conv=>whnf
  refine dK e1 ?_;conv=>whnf
  rcases EB m.code[i].kind with ⟨hf,hw⟩|⟨j,a,w,hf,hw,Og,ha8⟩
  ·refine Mu (z:=eB 0 0) rfl rfl (λw=>rfl) (λw=>rfl) (λw=>rfl) U hf ?_;conv=>whnf
   exact⟨bad (by rintro⟨_,_,hx,_⟩;rw[hw]at hx;cases hx),rfl⟩
  ·refine Mt (z:=eB 0 0) rfl rfl (λw=>rfl) (λw=>rfl) (λw=>rfl) U hf ?_;conv=>whnf
   refine ay (wv _ _ u m _ _ _ _ _ h iJ Ii ok (λhx=>absurd hx ha8)) ?_;conv=>whnf
   apply aV<;>intro g3;all_goals conv=>whnf
   ·exact⟨bad (by rintro⟨_,_,hx,hy,_⟩;rw[hw]at hx;cases hx;exact g3 hy),rfl⟩
   ·refine ay (wv _ _ u m _ _ _ _ _ h iJ Ii ok ?_) ?_
    ·intro hx;have ha:a=5:=by omega
     subst ha;simpa [bA]using g3
    conv=>whnf
    apply aV<;>intro g4;all_goals conv=>whnf
    ·exact⟨bad (by rintro⟨_,_,hx,_,hy⟩;rw[hw]at hx;cases hx;exact g4 hy),rfl⟩
    ·refine aj ?_;conv=>whnf
     refine dm (i+1) ⟨by omega,λj hj jv=>?_⟩ (by omega) rfl;rcases Nat.lt_succ_iff_lt_or_eq.1 jv with gH|rfl
     ·exact hg j hj gH
     ·exact⟨a,w,hw,g3,g4⟩
 ·have hA:∀ x∈m.code,eH u m x:=by
   intro t ht;obtain⟨j,hj,rfl⟩:=List.mem_iff_getElem.1 ht;exact hg j hj (by omega)
  refine fm [3,4,72,73,74] [3,4] (λi:Nat=>i<=m.aL.length/\∀ j (hj:j < m.aL.length),j < i->vz u.J.length m.locals m.aL[j]) (λi=>m.aL.length-i)
   (λi=>([.l 3 0,.l 4 0,.v (.slice p3 m.aL.length c3),.v (.int .i64 m.aL.length),.v (.int .i64 i)],
    [some [.slice p u.J.length cc,.slice q u.methods.length d],some [.int .i64 m.cls,.int .i64 m.eL,.slice p1 m.args.length c1,.int .i64 m.out,.int .i64 m.locals,.slice p2 m.code.length c2,.slice p3 m.aL.length c3,.slice p4 m.catches.length c4]],h)) 0 ⟨by omega,λl hl h=>by omega⟩ rfl ?_
  rintro i ⟨hi,hg⟩;conv=>whnf
  apply ax<;>intro g2;all_goals conv=>whnf
  ·have sw:i < m.aL.length:=by omega
   have e:=h7.get sw;obtain⟨bb,off,vs,hq,e1,l,k,e2,e3,e4⟩:=e;subst e2;obtain⟨p5,c5,rfl,_,_⟩:=e3.len;obtain⟨p6,c6,rfl,_,_⟩:=e4.len;refine aq ?_;conv=>whnf
   refine aO hq ?_;conv=>whnf
   refine dK e1 ?_;conv=>whnf
   refine ay (GV _ _ _ _ _ _ _ h jN e3 e4) ?_;conv=>whnf
   apply aV<;>intro g3;all_goals conv=>whnf
   ·exact⟨no (λhx=>g3 (hx.2.2.2.2 _ (List.getElem_mem _))),rfl⟩
   ·refine aj ?_;conv=>whnf
    refine dm (i+1) ⟨by omega,λj hj jv=>?_⟩ (by omega) rfl;rcases Nat.lt_succ_iff_lt_or_eq.1 jv with gH|rfl
    ·exact hg j hj gH
    ·exact g3
  ·refine⟨(lW ⟨by omega,by omega,by omega,hA,?_⟩).symm,rfl⟩;intro t ht;obtain⟨j,hj,rfl⟩:=List.mem_iff_getElem.1 ht;exact hg j hj (by omega)
def vB (u:aU) (m:cB) (c:mU):Prop:=(0<=c.lo/\c.lo < m.code.length/\0<=c.to/\c.to < m.code.length)/\(c.lo < c.hi/\c.hi<=m.code.length)/\(0<=c.cls/\c.cls < u.J.length)/\up u.J c.cls 1=true
def nP (u:aU) (m:cB):Prop:=m.catches.length<=2/\∀ c∈m.catches,vB u m c
theorem CS (us ms:List Value) (u:aU) (m:cB) (h:Heap) (hu:dL h us u) (hm:ee h ms m) (ok:cj u.J) :
  Pure prog 81 [.agg ⟨us⟩,.agg ⟨ms⟩] h (tf (nP u m)):=by
 obtain⟨p,cc,q,d,rfl,hcs,fM,jN,hl2⟩:=hu.form;obtain⟨p1,c1,p2,c2,p3,c3,p4,c4,rfl,h1,h2,h3,h4,h5,h6,h7,h8,b1,b2,b3,b4⟩:=hm.form;have no:¬nP u m->.bool false=tf (nP u m):=λhx=>(eN hx).symm;refine gN au func81 F81 Z3 rfl ?_;conv=>whnf
 apply ax<;>intro g1;all_goals conv=>whnf
 ·exact⟨no (λhx=>by have:=hx.1;omega),rfl⟩
 refine fm [2,3,12,13,14] [2,3] (λi:Nat=>i<=m.catches.length/\∀ j (hj:j < m.catches.length),j < i->vB u m m.catches[j]) (λi=>m.catches.length-i)
  (λi=>([.l 2 0,.l 3 0,.v (.slice p4 m.catches.length c4),.v (.int .i64 m.catches.length),.v (.int .i64 i)],
   [some [.slice p u.J.length cc,.slice q u.methods.length d],some [.int .i64 m.cls,.int .i64 m.eL,.slice p1 m.args.length c1,.int .i64 m.out,.int .i64 m.locals,.slice p2 m.code.length c2,.slice p3 m.aL.length c3,.slice p4 m.catches.length c4]],h)) 0 ⟨by omega,λl hl h=>by omega⟩ rfl ?_
 rintro i ⟨hi,hg⟩;conv=>whnf
 apply ax<;>intro g2;all_goals conv=>whnf
 ·have sw:i < m.catches.length:=by omega
  have e:=h8.get sw;obtain⟨bb,off,vs,hq,e1,e2,e3,e4,e5,e6⟩:=e;subst e2;have bad:¬vB u m m.catches[i]->Value.bool false=tf (nP u m):=λhx=>no (λhy=>hx (hy.2 _ (List.getElem_mem _)));refine aq ?_;conv=>whnf
  refine aO hq ?_;conv=>whnf
  refine dK e1 ?_;conv=>whnf
  repeat' ((first|refine b8 ?_|refine bL ?_|refine cU ?_|refine cF ?_|apply ax<;>intro _|apply aV<;>intro _|apply dS<;>intro _|apply bY<;>intro _|refine aq ?_|refine aj ?_|refine ptr ?_)<;>conv=>whnf)
  all_goals first|(exfalso;omega)|exact⟨bad (by intro hx;have:=hx.1;have:=hx.2.1;omega),rfl⟩|skip
  refine ay (vu _ _ _ _ _) ?_;conv=>whnf
  apply aV<;>intro g3;all_goals conv=>whnf
  ·exact⟨bad (λhx=>g3 hx.2.2.1),rfl⟩
  refine ay (rj _ _ _ _ _ _ _ hcs ok (by omega) (by omega)) ?_;conv=>whnf
  apply bY<;>intro g4;all_goals conv=>whnf
  ·exact⟨bad (λhx=>by rw[hx.2.2.2]at g4;cases g4),rfl⟩
  ·refine aj ?_;conv=>whnf
   refine dm (i+1) ⟨by omega,λj hj jv=>?_⟩ (by omega) rfl;rcases Nat.lt_succ_iff_lt_or_eq.1 jv with gH|rfl
   ·exact hg j hj gH
   ·exact⟨by omega,by omega,g3,g4⟩
 ·refine⟨(lW ⟨by omega,?_⟩).symm,rfl⟩;intro t ht;obtain⟨j,hj,rfl⟩:=List.mem_iff_getElem.1 ht;exact hg j hj (by omega)
theorem AQ (p q:Option Addr) (c d n k:Nat) (l r:List Int) (h:Heap) (h1:cT h (.slice p n c) l) (h2:cT h (.slice q k d) r) :
  Pure prog 136 [.slice p n c,.slice q k d] h (tf (l=r)):=by
 obtain⟨_,_,he,_,hl⟩:=h1.len;injection he with _ he _
 subst he;obtain⟨_,_,he,_,hr⟩:=h2.len;injection he with _ he _
 subst he;refine gN au func136 Tb Tc rfl ?_;conv=>whnf
 apply aV<;>intro g1;all_goals conv=>whnf
 ·exact⟨iO (λhx=>by subst hx;exact g1 rfl),rfl⟩
 have hlen:l.length=r.length:=by omega
 refine fm [0,1,12,13] [] (λi:Nat=>i<=l.length/\∀ j (hj:j < l.length),j < i->l[j]=r[j]) (λi=>l.length-i)
  (λi=>([.v (.slice p l.length c),.v (.slice q r.length d),.v (.int .i64 l.length),.v (.int .i64 i)],[],h)) 0 ⟨by omega,λl hl h=>by omega⟩ rfl ?_
 rintro i ⟨hi,hg⟩;conv=>whnf
 apply ax<;>intro g2;all_goals conv=>whnf
 ·have cG:i < l.length:=by omega
  have vC:i < r.length:=by omega
  have e1:=h1.get cG;have e2:=h2.get vC;obtain⟨b1,o1,vs1,q1,a1,a2,a3⟩:=e1;obtain⟨b2,o2,Ji,q2,c1,c2,c3⟩:=e2;subst a2 c2;have r1:=aK a1 (i:=0) rfl;have r2:=aK c1 (i:=0) rfl;repeat' ((first|refine aq ?_|refine aO q1 ?_|refine aO q2 ?_|refine ld r1 ?_|refine ld r2 ?_)<;>conv=>whnf)
  apply aV<;>intro g3;all_goals conv=>whnf
  ·exact⟨iO (λhx=>by subst hx;exact g3 rfl),rfl⟩
  ·refine aj ?_;conv=>whnf
   refine dm (i+1) ⟨by omega,λj hj jv=>?_⟩ (by omega) rfl;rcases Nat.lt_succ_iff_lt_or_eq.1 jv with gH|rfl
   ·exact hg j hj gH
   ·exact g3
 ·refine⟨jQ ?_,rfl⟩;exact List.ext_getElem hlen (λj hj _=>hg j hj (by omega))
def qx (u:aU) (m n:cB):Prop:=0<=m.cls->0<=n.cls->m.eL=n.eL->m.cls≠n.cls/\(up u.J m.cls n.cls=true->m.out=n.out/\m.args=n.args)
def oV (u:aU):Prop:=∀ i j (hi:i < u.methods.length) (hj:j < u.methods.length),i≠j->qx u u.methods[i] u.methods[j]
theorem ME (us:List Value) (u:aU) (h:Heap) (hu:dL h us u) (ok:cj u.J) (hc:∀ m∈u.methods,-1<=m.cls/\m.cls < u.J.length) :
  Pure prog 82 [.agg ⟨us⟩] h (tf (oV u)):=by
 obtain⟨p,cc,q,d,rfl,hcs,fM,jN,hl2⟩:=hu.form;have no:¬oV u->.bool false=tf (oV u):=λhx=>(eN hx).symm;refine gN au func82 F82 Z4 rfl ?_;conv=>whnf
 refine fm [1,8,9,10] [1] (λi:Nat=>i<=u.methods.length/\∀ i' j (hi:i' < u.methods.length) (hj:j < u.methods.length),i' < i->i'≠j->qx u u.methods[i'] u.methods[j]) (λi=>u.methods.length-i)
  (λi=>([.l 1 0,.v (.slice q u.methods.length d),.v (.int .i64 u.methods.length),.v (.int .i64 i)],[some [.slice p u.J.length cc,.slice q u.methods.length d]],h)) 0 ⟨by omega,λ_ _ _ _ hx=>by omega⟩ rfl ?_
 rintro i ⟨hi,hg⟩;conv=>whnf
 apply ax<;>intro g2;all_goals conv=>whnf
 ·have sw:i < u.methods.length:=by omega
  have e:=fM.get sw;obtain⟨bb,off,vs,hq,e1,e2⟩:=e;have Ij:=hc _ (List.getElem_mem sw);obtain⟨p1,c1,p2,c2,p3,c3,p4,c4,e3,h1,h2,h3,h4,h5,h6,h7,h8,b1,b2,b3,b4⟩:=e2.form;subst e3;refine aq ?_;conv=>whnf
  refine aO hq ?_;conv=>whnf
  refine dK e1 ?_;conv=>whnf
  refine fm [1,3,4,8,9,10,16,17,18] [1,4] (λj:Nat=>j<=u.methods.length/\∀ j' (hj:j' < u.methods.length),j' < j->i≠j'->qx u u.methods[i] u.methods[j']) (λj=>u.methods.length-j)
   (λj=>([.l 1 0,.v (.int .i64 i),.l 4 0,.v (.slice q u.methods.length d),.v (.int .i64 u.methods.length),.v (.int .i64 i),.v (.slice q u.methods.length d),.v (.int .i64 u.methods.length),.v (.int .i64 j)],
    [some [.slice p u.J.length cc,.slice q u.methods.length d],some [.int .i64 u.methods[i].cls,.int .i64 u.methods[i].eL,.slice p1 u.methods[i].args.length c1,.int .i64 u.methods[i].out,.int .i64 u.methods[i].locals,.slice p2 u.methods[i].code.length c2,.slice p3 u.methods[i].aL.length c3,.slice p4 u.methods[i].catches.length c4]],h)) 0 ⟨by omega,λ_ _ hx=>by omega⟩ rfl ?_
  rintro j ⟨hj,VO⟩;conv=>whnf
  apply ax<;>intro g3;all_goals conv=>whnf
  ·have PW:j < u.methods.length:=by omega
   have e:=fM.get PW;obtain⟨Ym,dU,oW,Jj,f1,f2⟩:=e;have Yn:=hc _ (List.getElem_mem PW);obtain⟨RR,Oh,RS,Oi,VP,MF,VQ,VR,f3,k1,k2,k3,k4,k5,k6,k7,k8,d1,d2,d3,d4⟩:=f2.form;subst f3;have bad:i≠j->¬qx u u.methods[i] u.methods[j]->Value.bool false=tf (oV u):=λcD hx=>no (λhy=>hx (hy i j sw PW cD));have go:(i≠j->qx u u.methods[i] u.methods[j])->∀ j' (hj:j' < u.methods.length),j' < j+1->i≠j'->qx u u.methods[i] u.methods[j']:=by
    intro hx j' Jk jv cD;rcases Nat.lt_succ_iff_lt_or_eq.1 jv with gH|rfl
    ·exact VO j' Jk gH cD
    ·exact hx cD
   refine aq ?_;conv=>whnf
   refine aO Jj ?_;conv=>whnf
   refine dK f1 ?_;conv=>whnf
   by_cases VS:(i:Int)=j\/u.methods[i].cls < 0\/u.methods[j].cls < 0\/u.methods[i].eL≠u.methods[j].eL
   ·repeat' ((first|refine b8 ?_|refine bL ?_|refine cU ?_|refine cF ?_|apply ax<;>intro _|apply aV<;>intro _|apply dS<;>intro _|apply bY<;>intro _|refine aq ?_|refine aj ?_|refine ptr ?_)<;>conv=>whnf)
    all_goals first
     | (exfalso;omega)
     | (refine dm (j+1) ⟨by omega,go (λcD k1 k2 k3=>by omega)⟩ (by omega) rfl)
   ·repeat' ((first|refine b8 ?_|refine bL ?_|refine cU ?_|refine cF ?_|apply ax<;>intro _|apply aV<;>intro _|apply dS<;>intro _|apply bY<;>intro _|refine aq ?_|refine aj ?_|refine ptr ?_)<;>conv=>whnf)
    all_goals first
     | (exfalso;omega)
     | exact⟨bad (by omega) (λhx=>(hx (by omega) (by omega) (by omega)).1 (by omega)),rfl⟩
     | skip
    refine ay (rj _ _ _ _ _ _ _ hcs ok (by omega) (by omega)) ?_;conv=>whnf
    apply dS<;>intro g4;all_goals conv=>whnf
    ·apply aV<;>intro g5;all_goals conv=>whnf
     ·exact⟨bad (by omega) (λhx=>g5 ((hx (by omega) (by omega) (by omega)).2 g4).1),rfl⟩
     ·refine ay (AQ _ _ _ _ _ _ _ _ h h5 k5) ?_;conv=>whnf
      apply aV<;>intro g6;all_goals conv=>whnf
      ·exact⟨bad (by omega) (λhx=>g6 ((hx (by omega) (by omega) (by omega)).2 g4).2),rfl⟩
      ·refine aj ?_;conv=>whnf
       refine dm (j+1) ⟨by omega,go (λcD k1 k2 k3=>⟨by omega,λ_=>⟨by omega,g6⟩⟩)⟩ (by omega) rfl
    ·refine aj ?_;conv=>whnf
     refine dm (j+1) ⟨by omega,go (λcD k1 k2 k3=>⟨by omega,λk4=>by rw[g4]at k4;cases k4⟩)⟩ (by omega) rfl
  ·refine aj ?_;conv=>whnf
   refine dm (i+1) ⟨by omega,λi' j wg hj hii cD=>?_⟩ (by omega) rfl;rcases Nat.lt_succ_iff_lt_or_eq.1 hii with gH|rfl
   ·exact hg i' j wg hj gH cD
   ·exact VO j hj (by omega) cD
 ·exact⟨jQ (λi' j wg hj cD=>hg i' j wg hj (by omega) cD),rfl⟩
theorem aI {u:aU} {m:cB} {k a b p q:Int} (hw:sx k=some (p,q)):eH u m ⟨k,a,b⟩↔bA u m a p a/\bA u m a q b:=by
 constructor
 ·rintro⟨p',q',h1,h2⟩;simp only[hw,Option.some.injEq,Prod.mk.injEq]at h1;obtain⟨rfl,rfl⟩:=h1;exact h2
 ·rintro h;exact⟨p,q,hw,h⟩
theorem vD {k p q:Int} (hw:sx k=some (p,q)):(k,eB p q)∈jR:=by
 rcases EB k with ⟨_,h⟩|⟨i,a,b,h,h2,_⟩
 ·rw[hw]at h;cases h
 ·rw[hw]at h2;cases h2;exact rz _ _ h
theorem fH {cs:List dR} (ok:cj cs) {c:Int} (hl:c < cs.length):(cX cs c).length<=8:=by
 have:=tU ok 4 c hl (by have:=ok.2.1;omega);omega
theorem xg (us ms:List Value) (u:aU) (m:cB) (x:dX) (h:Heap) (hu:dL h us u) (hm:ee h ms m) (ok:cj u.J) (hx:cL x.a/\cL x.b) (sw:0<=m.locals) :
  Pure prog 77 [.agg ⟨us⟩,.agg ⟨ms⟩,.agg #[.int .i64 x.kind,.int .i64 x.a,.int .i64 x.b]] h (tf (eH u m x)):=by
 obtain⟨p,cc,q,d,rfl,hcs,fM,jN,hl2⟩:=hu.form;obtain⟨p1,c1,p2,c2,p3,c3,p4,c4,rfl,h1,h2,h3,h4,h5,h6,h7,h8,b1,b2,b3,b4⟩:=hm.form;obtain⟨kind,a,b⟩:=x;simp only at hx ⊢;obtain⟨h40,h41⟩:=h4;refine GN au func77 F77 ZZ rfl ?_;conv=>whnf
 refine aj ?_;conv=>whnf
 refine ay (er _ _ _ _) ?_;conv=>whnf
 have rf:∀(K:Value->Heap->Prop) (E:List PanicEntry->Heap->Prop),(0<=a/\a < u.J.length)->(∀ p' c' h',h.le h'->h.le h'/\K (.slice p' (cX u.J a).length c') h')->jA prog 98 [.slice p u.J.length cc,.int .i64 a] h K E:=by
  intro K E ha hk;refine cE (lZ _ _ _ _ _ _ _ hcs ok ha.1 ha.2 (Nat.lt_succ_self _)) ?_;rintro v h' ⟨hle,B,ho,_⟩;have ff:=ho.form;obtain⟨p',c',rfl,oQ⟩:=ff;have:=hk p' c' h' hle;simpa using this
 have fy:(0<=a/\a < u.methods.length)->∃ bb off,q=some ⟨bb,off,none⟩/\rd h bb (off+a.toNat*8)=some (.int .i64 (br u a).cls):=by
  intro U;have hi:a.toNat < u.methods.length:=by omega
  have e:=fM.get hi;obtain⟨bb,off,vs,hq,e1,e2⟩:=e;obtain⟨_,_,_,_,e3,_⟩:=e2;subst e3;have mY:br u a=u.methods[a.toNat]:=gv hi (by omega);exact⟨bb,off,hq,by rw[mY];exact aK e1 (i:=0) rfl⟩
 have sP:a < u.J.length->(cX u.J a).length<=8:=λhx=>fH ok hx;cases hw:sx kind with
 | none =>
  have hk:kind≠1/\kind≠2/\kind≠3/\kind≠4/\kind≠5/\kind≠6/\kind≠7/\kind≠8/\kind≠9/\kind≠10/\kind≠11/\kind≠12/\kind≠13/\kind≠14/\kind≠15/\kind≠16/\kind≠17/\kind≠18/\kind≠19/\kind≠20/\kind≠21/\kind≠22/\kind≠23/\kind≠24:=by
   refine⟨?_,?_,?_,?_,?_,?_,?_,?_,?_,?_,?_,?_,?_,?_,?_,?_,?_,?_,?_,?_,?_,?_,?_,?_⟩<;>(rintro rfl;cases hw)
  repeat' ((first|refine b8 ?_|refine bL ?_|refine cU ?_|refine cF ?_|apply ax<;>intro _|apply aV<;>intro _|apply dS<;>intro _|apply bY<;>intro _|refine aq ?_|refine aj ?_|refine ptr ?_)<;>conv=>whnf)
  exact⟨iO (by rintro⟨_,_,hx,_⟩;rw[hw]at hx;cases hx),Heap.le_refl h⟩
 | some w =>
  obtain⟨wa,wb⟩:=w;have hi:=aI (u:=u) (m:=m) (a:=a) (b:=b) hw;have dy:=vD hw;simp only[jR,eB,List.mem_cons,List.not_mem_nil,or_false,Prod.mk.injEq,Value.agg.injEq,Array.mk.injEq,List.cons.injEq,Value.int.injEq,true_and,and_true]at dy;rcases dy with ⟨rfl,rfl,rfl⟩|⟨rfl,rfl,rfl⟩|⟨rfl,rfl,rfl⟩|⟨rfl,rfl,rfl⟩|⟨rfl,rfl,rfl⟩|⟨rfl,rfl,rfl⟩|⟨rfl,rfl,rfl⟩|⟨rfl,rfl,rfl⟩|⟨rfl,rfl,rfl⟩|⟨rfl,rfl,rfl⟩|⟨rfl,rfl,rfl⟩|⟨rfl,rfl,rfl⟩|⟨rfl,rfl,rfl⟩|⟨rfl,rfl,rfl⟩|⟨rfl,rfl,rfl⟩|⟨rfl,rfl,rfl⟩|⟨rfl,rfl,rfl⟩|⟨rfl,rfl,rfl⟩|⟨rfl,rfl,rfl⟩|⟨rfl,rfl,rfl⟩|⟨rfl,rfl,rfl⟩|⟨rfl,rfl,rfl⟩|⟨rfl,rfl,rfl⟩|⟨rfl,rfl,rfl⟩;all_goals conv=>whnf
  rotate_left 19
  ·refine aj ?_;conv=>whnf
   refine ay (er _ _ _ _) ?_;conv=>whnf
   apply ax<;>intro U;all_goals conv=>whnf
   ·have bz:0<=a/\a < u.methods.length:=by omega
    have e:=fy bz;obtain⟨bb,off,hq,hr⟩:=e;repeat' ((first|apply ax<;>intro _|apply aV<;>intro _|apply dS<;>intro _|apply bY<;>intro _|refine aO hq ?_|refine ld hr ?_|refine aq ?_|refine aj ?_|refine ptr ?_)<;>conv=>whnf)
    all_goals first
     | exact⟨lX (by rw[hi];simp[bA,isWord];omega),Heap.le_refl _⟩
     | exact⟨iO (by rw[hi];simp[bA,isWord];omega),Heap.le_refl _⟩
     | exact⟨jQ (by rw[hi];simp[bA,isWord];omega),Heap.le_refl _⟩
     | skip
   ·exact⟨iO (by rw[hi];simp[bA,isWord];omega),Heap.le_refl _⟩
  all_goals
   repeat' ((first|apply ax<;>intro _|apply aV<;>intro _|apply dS<;>intro _|apply bY<;>intro _|refine ay (er _ _ _ _) ?_|refine ay (xS _ _) ?_|refine aT (er _ _ _ _) ?_|refine rf _ _ (by omega) (λp' c' h' hle=>⟨hle,?_⟩)|refine aq ?_|refine aj ?_|refine ptr ?_)<;>conv=>whnf)
   all_goals first
    | exact⟨lX (by rw[hi];simp[bA,isWord];omega),by first|exact Heap.le_refl _|assumption⟩
    | exact⟨iO (by rw[hi];simp[bA,isWord];omega),by first|exact Heap.le_refl _|assumption⟩
    | exact⟨jQ (by rw[hi];simp[bA,isWord];omega),by first|exact Heap.le_refl _|assumption⟩
    | skip
theorem GX (us ms:List Value) (u:aU) (m:cB) (c:mU) (h:Heap) (hu:dL h us u) (hm:ee h ms m) (ok:cj u.J) (hx:cL c.lo/\cL c.hi/\cL c.to/\cL c.cls) :
  Pure prog 93 [.agg ⟨us⟩,.agg ⟨ms⟩,.agg #[.int .i64 c.lo,.int .i64 c.hi,.int .i64 c.to,.int .i64 c.cls]] h (tf (vB u m c)):=by
 obtain⟨p,cc,q,d,rfl,hcs,fM,jN,hl2⟩:=hu.form;obtain⟨p1,c1,p2,c2,p3,c3,p4,c4,rfl,h1,h2,h3,h4,h5,h6,h7,h8,b1,b2,b3,b4⟩:=hm.form;refine gN au func93 F93 aae rfl ?_;conv=>whnf
 repeat' ((first|apply ax<;>intro _|apply aV<;>intro _|apply dS<;>intro _|apply bY<;>intro _|refine ay (er _ _ _ _) ?_|refine ay (sM _ _ _ _ _ _ _ hcs ok (by omega) (by omega) (by omega)) ?_|refine aq ?_|refine aj ?_|refine ptr ?_)<;>conv=>whnf)
 all_goals first
  | exact⟨iO (by unfold vB;omega),rfl⟩
  | skip
 all_goals refine⟨?_,rfl⟩
 all_goals first
  | (cases zW:up u.J c.cls 1 with
   | true=>exact jQ ⟨by omega,by omega,by omega,zW⟩
   | false=>exact iO (λhy=>by rw[hy.2.2.2]at zW;cases zW))
theorem Jl (ms ns:List Value) (m n:cB) (h:Heap) (hm:ee h ms m) (hn:ee h ns n) :
  Pure prog 95 [.agg ⟨ms⟩,.agg ⟨ns⟩] h (tf (m.out=n.out/\m.args=n.args)):=by
 obtain⟨p1,c1,p2,c2,p3,c3,p4,c4,rfl,h1,h2,h3,h4,h5,h6,h7,h8,b1,b2,b3,b4⟩:=hm.form;obtain⟨RR,Oh,RS,Oi,VP,MF,VQ,VR,rfl,k1,k2,k3,k4,k5,k6,k7,k8,d1,d2,d3,d4⟩:=hn.form;refine gN au func95 F95 aag rfl ?_;conv=>whnf
 apply aV<;>intro g1;all_goals conv=>whnf
 ·exact⟨iO (λhx=>g1 hx.1),rfl⟩
 apply aV<;>intro g2;all_goals conv=>whnf
 ·exact⟨iO (λhx=>g2 (by rw[hx.2])),rfl⟩
 have hlen:m.args.length=n.args.length:=by omega
 refine fm [2,3,5] [2,3] (λi:Nat=>i<=m.args.length/\∀ j (hj:j < m.args.length),j < i->m.args[j]=n.args[j]) (λi=>m.args.length-i)
  (λi=>([.l 2 0,.l 3 0,.v (.int .i64 i)],
   [some [.int .i64 m.cls,.int .i64 m.eL,.slice p1 m.args.length c1,.int .i64 m.out,.int .i64 m.locals,.slice p2 m.code.length c2,.slice p3 m.aL.length c3,.slice p4 m.catches.length c4],some [.int .i64 n.cls,.int .i64 n.eL,.slice RR n.args.length Oh,.int .i64 n.out,.int .i64 n.locals,.slice RS n.code.length Oi,.slice VP n.aL.length MF,.slice VQ n.catches.length VR]],h)) 0 ⟨by omega,λl hl h=>by omega⟩ rfl ?_
 rintro i ⟨hi,hg⟩;conv=>whnf
 apply ax<;>intro g3;all_goals conv=>whnf
 ·have cG:i < m.args.length:=by omega
  have vC:i < n.args.length:=by omega
  have e1:=h5.get cG;have e2:=k5.get vC;obtain⟨b1',o1,vs1,q1,a1,a2,a3⟩:=e1;obtain⟨b2',o2,Ji,q2,f1,f2,f3⟩:=e2;subst a2 f2;have r1:=aK a1 (i:=0) rfl;have r2:=aK f1 (i:=0) rfl;repeat' ((first|refine aq ?_|refine aO q1 ?_|refine aO q2 ?_|refine ld r1 ?_|refine ld r2 ?_)<;>conv=>whnf)
  apply aV<;>intro g4;all_goals conv=>whnf
  ·refine⟨iO (λhx=>g4 ?_),rfl⟩;simp[hx.2]
  ·refine aj ?_;conv=>whnf
   refine dm (i+1) ⟨by omega,λj hj jv=>?_⟩ (by omega) rfl;rcases Nat.lt_succ_iff_lt_or_eq.1 jv with gH|rfl
   ·exact hg j hj gH
   ·exact g4
 ·refine⟨jQ ⟨g1,?_⟩,rfl⟩;exact List.ext_getElem hlen (λj hj _=>hg j hj (by omega))
def qy (u:aU) (m:cB):Prop:=eY u.J.length m/\zV u m/\nP u m
theorem EC (us ms:List Value) (u:aU) (m:cB) (h:Heap) (hu:dL h us u) (hm:ee h ms m) (ok:cj u.J) :
  Pure prog 47 [.agg ⟨us⟩,.agg ⟨ms⟩] h (tf (qy u m)):=by
 have iJ:=hu;have Ii:=hm;obtain⟨p,cc,q,d,rfl,hcs,fM,jN,hl2⟩:=hu.form;obtain⟨p1,c1,p2,c2,p3,c3,p4,c4,rfl,h1,h2,h3,h4,h5,h6,h7,h8,b1,b2,b3,b4⟩:=hm.form;have no:¬qy u m->.bool false=tf (qy u m):=λhx=>(eN hx).symm;refine gN au func47 F47 ZI rfl ?_;conv=>whnf
 refine ay (Jg _ _ u m h iJ Ii) ?_;conv=>whnf
 apply aV<;>intro g1;all_goals conv=>whnf
 ·exact⟨no (λhx=>g1 hx.1),rfl⟩
 refine ay (er _ _ _ _) ?_;conv=>whnf
 apply aV<;>intro g2;all_goals conv=>whnf
 ·exact⟨no (λhx=>by have:=hx.2.1.1;have:=hx.2.1.2.1;omega),rfl⟩
 apply aV<;>intro g3;all_goals conv=>whnf
 ·exact⟨no (λhx=>by have:=hx.2.1.2.2.1;omega),rfl⟩
 apply ax<;>intro g4;all_goals conv=>whnf
 ·exact⟨no (λhx=>by have:=hx.2.2.1;omega),rfl⟩
 have nr:0<=m.locals:=by have:=g1.2.2.2.2.2;omega
 refine fm [2,3,5] [2,3] (λi:Nat=>i<=m.code.length/\∀ j (hj:j < m.code.length) (Jk:j < m.aL.length),j < i->eH u m m.code[j]/\vz u.J.length m.locals m.aL[j]) (λi=>m.code.length-i)
  (λi=>([.l 2 0,.l 3 0,.v (.int .i64 i)],
   [some [.slice p u.J.length cc,.slice q u.methods.length d],some [.int .i64 m.cls,.int .i64 m.eL,.slice p1 m.args.length c1,.int .i64 m.out,.int .i64 m.locals,.slice p2 m.code.length c2,.slice p3 m.aL.length c3,.slice p4 m.catches.length c4]],h)) 0 ⟨by omega,λl hl _ h=>by omega⟩ rfl ?_
 rintro i ⟨hi,hg⟩;conv=>whnf
 apply ax<;>intro g5;all_goals conv=>whnf
 ·have cG:i < m.code.length:=by omega
  have vC:i < m.aL.length:=by omega
  have e:=h6.get cG;obtain⟨bb,off,vs,hq,e1,e2,e3,e4,e5⟩:=e;subst e2;have f:=h7.get vC;obtain⟨Ym,dU,oW,Jj,f1,l,k,f2,f3,f4⟩:=f;subst f2;obtain⟨p5,c5,rfl,_,_⟩:=f3.len;obtain⟨p6,c6,rfl,_,_⟩:=f4.len;refine aq ?_;conv=>whnf
  refine aO hq ?_;conv=>whnf
  refine dK e1 ?_;conv=>whnf
  refine aT (xg _ _ u m _ h iJ Ii ok ⟨e4,e5⟩ nr) ?_;conv=>whnf
  apply aV<;>intro g6;all_goals conv=>whnf
  ·exact⟨no (λhx=>g6 (hx.2.1.2.2.2.1 _ (List.getElem_mem _))),rfl⟩
  refine aq ?_;conv=>whnf
  refine aO Jj ?_;conv=>whnf
  refine dK f1 ?_;conv=>whnf
  refine aT (EA _ _ _ _ _ _ _ _ h hcs f3 f4) ?_;conv=>whnf
  apply aV<;>intro g7;all_goals conv=>whnf
  ·exact⟨no (λhx=>g7 ⟨ok,hx.2.1.2.2.2.2 _ (List.getElem_mem _)⟩),rfl⟩
  ·refine aj ?_;conv=>whnf
   refine dm (i+1) ⟨by omega,λj hj Jk jv=>?_⟩ (by omega) rfl;rcases Nat.lt_succ_iff_lt_or_eq.1 jv with gH|rfl
   ·exact hg j hj Jk gH
   ·exact⟨g6,g7.2⟩
 ·have hA:∀ x∈m.code,eH u m x:=by
   intro t ht;obtain⟨j,hj,rfl⟩:=List.mem_iff_getElem.1 ht;exact(hg j hj (by omega) (by omega)).1
  have hB:∀ s∈m.aL,vz u.J.length m.locals s:=by
   intro t ht;obtain⟨j,hj,rfl⟩:=List.mem_iff_getElem.1 ht;exact(hg j (by omega) hj (by omega)).2
  have hC:zV u m:=⟨by omega,by omega,by omega,hA,hB⟩
  refine fm [2,3,6] [2,3] (λi:Nat=>i<=m.catches.length/\∀ j (hj:j < m.catches.length),j < i->vB u m m.catches[j]) (λi=>m.catches.length-i)
   (λi=>([.l 2 0,.l 3 0,.v (.int .i64 i)],
    [some [.slice p u.J.length cc,.slice q u.methods.length d],some [.int .i64 m.cls,.int .i64 m.eL,.slice p1 m.args.length c1,.int .i64 m.out,.int .i64 m.locals,.slice p2 m.code.length c2,.slice p3 m.aL.length c3,.slice p4 m.catches.length c4]],h)) 0 ⟨by omega,λl hl h=>by omega⟩ rfl ?_
  rintro i ⟨hi,hg⟩;conv=>whnf
  apply ax<;>intro g6;all_goals conv=>whnf
  ·have cG:i < m.catches.length:=by omega
   have e:=h8.get cG;obtain⟨bb,off,vs,hq,e1,e2,e3⟩:=e;subst e2;refine aq ?_;conv=>whnf
   refine aO hq ?_;conv=>whnf
   refine dK e1 ?_;conv=>whnf
   refine aT (GX _ _ u m _ h iJ Ii ok e3) ?_;conv=>whnf
   apply aV<;>intro g7;all_goals conv=>whnf
   ·exact⟨no (λhx=>g7 (hx.2.2.2 _ (List.getElem_mem _))),rfl⟩
   ·refine aj ?_;conv=>whnf
    refine dm (i+1) ⟨by omega,λj hj jv=>?_⟩ (by omega) rfl;rcases Nat.lt_succ_iff_lt_or_eq.1 jv with gH|rfl
    ·exact hg j hj gH
    ·exact g7
  ·refine⟨jQ ⟨g1,hC,by omega,?_⟩,rfl⟩;intro t ht;obtain⟨j,hj,rfl⟩:=List.mem_iff_getElem.1 ht;exact hg j hj (by omega)
theorem tV {cs:List dR} (ok:cj cs) {a:Int} (h0:0<=a) (h1:a < cs.length):up cs a a=true:=by
 rw[ig ok h0 h1];simp
theorem GY (us:List Value) (u:aU) (h:Heap) (hu:dL h us u) (ok:cj u.J) (hc:∀ m∈u.methods,-1<=m.cls/\m.cls < u.J.length) :
  Pure prog 48 [.agg ⟨us⟩] h (tf (oV u)):=by
 obtain⟨p,cc,q,d,rfl,hcs,fM,jN,hl2⟩:=hu.form;have no:¬oV u->.bool false=tf (oV u):=λhx=>(eN hx).symm;refine gN au func48 F48 ZJ rfl ?_;conv=>whnf
 refine fm [1,3] [1] (λi:Nat=>i<=u.methods.length/\∀ i' j (hi:i' < u.methods.length) (hj:j < u.methods.length),i' < i->i'≠j->qx u u.methods[i'] u.methods[j]) (λi=>u.methods.length-i)
  (λi=>([.l 1 0,.v (.int .i64 i)],[some [.slice p u.J.length cc,.slice q u.methods.length d]],h)) 0 ⟨by omega,λ_ _ _ _ hx=>by omega⟩ rfl ?_
 rintro i ⟨hi,hg⟩;conv=>whnf
 apply ax<;>intro g2;all_goals conv=>whnf
 ·have sw:i < u.methods.length:=by omega
  have e:=fM.get sw;obtain⟨bb,off,vs,hq,e1,e2⟩:=e;have Ij:=hc _ (List.getElem_mem sw);have Jm:=e2;obtain⟨p1,c1,p2,c2,p3,c3,p4,c4,e3,h1,h2,h3,h4,h5,h6,h7,h8,b1,b2,b3,b4⟩:=e2.form;subst e3;refine fm [1,3,4] [1] (λj:Nat=>j<=u.methods.length/\∀ j' (hj:j' < u.methods.length),j' < j->i≠j'->qx u u.methods[i] u.methods[j']) (λj=>u.methods.length-j)
   (λj=>([.l 1 0,.v (.int .i64 i),.v (.int .i64 j)],
    [some [.slice p u.J.length cc,.slice q u.methods.length d]],h)) 0 ⟨by omega,λ_ _ hx=>by omega⟩ rfl ?_
  rintro j ⟨hj,VO⟩;conv=>whnf
  apply ax<;>intro g3;all_goals conv=>whnf
  ·have PW:j < u.methods.length:=by omega
   have e:=fM.get PW;obtain⟨Ym,dU,oW,Jj,f1,f2⟩:=e;have Yn:=hc _ (List.getElem_mem PW);have f20:=f2;obtain⟨RR,Oh,RS,Oi,VP,MF,VQ,VR,f3,k1,k2,k3,k4,k5,k6,k7,k8,d1,d2,d3,d4⟩:=f2.form;subst f3;have bad:i≠j->¬qx u u.methods[i] u.methods[j]->Value.bool false=tf (oV u):=λcD hx=>no (λhy=>hx (hy i j sw PW cD));have go:(i≠j->qx u u.methods[i] u.methods[j])->∀ j' (hj:j' < u.methods.length),j' < j+1->i≠j'->qx u u.methods[i] u.methods[j']:=by
    intro hx j' Jk jv cD;rcases Nat.lt_succ_iff_lt_or_eq.1 jv with gH|rfl
    ·exact VO j' Jk gH cD
    ·exact hx cD
   refine aq ?_;conv=>whnf
   refine aO hq ?_;conv=>whnf
   refine dK e1 ?_;conv=>whnf
   refine aq ?_;conv=>whnf
   refine aO Jj ?_;conv=>whnf
   refine dK f1 ?_;conv=>whnf
   by_cases VS:(i:Int)=j\/u.methods[i].cls < 0\/u.methods[j].cls < 0\/u.methods[i].eL≠u.methods[j].eL
   ·repeat' ((first|refine b8 ?_|refine bL ?_|refine cU ?_|refine cF ?_|apply ax<;>intro _|apply aV<;>intro _|apply dS<;>intro _|apply bY<;>intro _|refine aq ?_|refine aj ?_|refine ptr ?_)<;>conv=>whnf)
    all_goals first
     | (exfalso;omega)
     | (refine dm (j+1) ⟨by omega,go (λcD k1 k2 k3=>by omega)⟩ (by omega) rfl)
   ·repeat' ((first|refine b8 ?_|refine bL ?_|refine cU ?_|refine cF ?_|apply ax<;>intro _|apply aV<;>intro _|apply dS<;>intro _|apply bY<;>intro _|refine aq ?_|refine aj ?_|refine ptr ?_)<;>conv=>whnf)
    refine ay (sM _ _ _ _ _ _ _ hcs ok (by omega) (by omega) (by omega)) ?_;conv=>whnf
    apply dS<;>intro g4;all_goals conv=>whnf
    ·apply ax<;>intro g5;all_goals conv=>whnf
     ·exact⟨bad (by omega) (λhx=>(hx (by omega) (by omega) (by omega)).1 g5),rfl⟩
     ·refine ay (Jl _ _ _ _ h Jm f20) ?_;conv=>whnf
      apply aV<;>intro g6;all_goals conv=>whnf
      ·exact⟨bad (by omega) (λhx=>g6 ((hx (by omega) (by omega) (by omega)).2 g4)),rfl⟩
      ·refine aj ?_;conv=>whnf
       refine dm (j+1) ⟨by omega,go (λcD k1 k2 k3=>⟨g5,λ_=>g6⟩)⟩ (by omega) rfl
    ·refine aj ?_;conv=>whnf
     refine dm (j+1) ⟨by omega,go (λcD k1 k2 k3=>⟨λhy=>?_,λk4=>by rw[g4]at k4;cases k4⟩)⟩ (by omega) rfl;rw[hy,tV ok (by omega) (by omega)]at g4;cases g4
  ·refine aj ?_;conv=>whnf
   refine dm (i+1) ⟨by omega,λi' j wg hj hii cD=>?_⟩ (by omega) rfl;rcases Nat.lt_succ_iff_lt_or_eq.1 hii with gH|rfl
   ·exact hg i' j wg hj gH cD
   ·exact VO j hj (by omega) cD
 ·exact⟨jQ (λi' j wg hj cD=>hg i' j wg hj (by omega) cD),rfl⟩
def eC (u:aU):Prop:=cj u.J/\(1<=u.methods.length/\u.methods.length<=4)/\((br u 0).cls = -1/\(br u 0).args=[]/\(br u 0).out=1)/\(∀ m∈u.methods,qy u m)/\oV u
theorem qy.cls {u:aU} {m:cB} (hm:qy u m) : -1<=m.cls/\m.cls < u.J.length:=by
 have:=hm.1.1;omega
theorem rA (us:List Value) (u:aU) (h:Heap) (hu:dL h us u):Pure prog 19 [.agg ⟨us⟩] h (tf (eC u)):=by
 have iJ:=hu;obtain⟨p,cc,q,d,rfl,hcs,fM,jN,hl2⟩:=hu.form;have no:¬eC u->.bool false=tf (eC u):=λhx=>(eN hx).symm;refine gN au func19 F19 Zr rfl ?_;conv=>whnf
 refine ay (oU _ _ _ _ h hcs) ?_;conv=>whnf
 apply aV<;>intro ok;all_goals conv=>whnf
 ·exact⟨no (λhx=>ok hx.1),rfl⟩
 refine ay (er _ _ _ _) ?_;conv=>whnf
 apply aV<;>intro g2;all_goals conv=>whnf
 ·exact⟨no (λhx=>by have:=hx.2.1;omega),rfl⟩
 have h0:0 < u.methods.length:=by omega
 have mY:br u 0=u.methods[0]:=gv h0 rfl;have e:=fM.get h0;obtain⟨bb,off,vs,hq,e1,e2⟩:=e;obtain⟨p1,c1,p2,c2,p3,c3,p4,c4,e3,h1,h2,h3,h4,h5,h6,h7,h8,b1,b2,b3,b4⟩:=e2.form;subst e3;refine aq ?_;conv=>whnf
 refine aO hq ?_;conv=>whnf
 refine ld (aK e1 (i:=0) rfl) ?_;conv=>whnf
 apply aV<;>intro g3;all_goals conv=>whnf
 ·exact⟨no (λhx=>g3 (by rw[<-mY];exact hx.2.2.1.1)),rfl⟩
 refine aq ?_;conv=>whnf
 refine aO hq ?_;conv=>whnf
 refine ld (aK e1 (i:=2) rfl) ?_;conv=>whnf
 apply ax<;>intro g4;all_goals conv=>whnf
 ·exact⟨no (λhx=>by have:=hx.2.2.1.2.1;rw[mY]at this;rw[this]at g4;simp at g4),rfl⟩
 refine aq ?_;conv=>whnf
 refine aO hq ?_;conv=>whnf
 refine ld (aK e1 (i:=3) rfl) ?_;conv=>whnf
 apply aV<;>intro g5;all_goals conv=>whnf
 ·exact⟨no (λhx=>g5 (by rw[<-mY];exact hx.2.2.1.2.2)),rfl⟩
 refine fm [1,3] [1] (λi:Nat=>i<=u.methods.length/\∀ j (hj:j < u.methods.length),j < i->qy u u.methods[j]) (λi=>u.methods.length-i)
  (λi=>([.l 1 0,.v (.int .i64 i)],[some [.slice p u.J.length cc,.slice q u.methods.length d]],h)) 0 ⟨by omega,λ_ _ hx=>by omega⟩ rfl ?_
 rintro i ⟨hi,hg⟩;conv=>whnf
 apply ax<;>intro g6;all_goals conv=>whnf
 ·have cG:i < u.methods.length:=by omega
  have f:=fM.get cG;obtain⟨Ym,dU,oW,Jj,f1,f2⟩:=f;have f20:=f2;obtain⟨RR,Oh,RS,Oi,VP,MF,VQ,VR,f3,_⟩:=f2.form;subst f3;refine aq ?_;conv=>whnf
  refine aO Jj ?_;conv=>whnf
  refine dK f1 ?_;conv=>whnf
  refine aT (EC _ _ u _ h iJ f20 ok) ?_;conv=>whnf
  apply aV<;>intro g7;all_goals conv=>whnf
  ·exact⟨no (λhx=>g7 (hx.2.2.2.1 _ (List.getElem_mem _))),rfl⟩
  ·refine aj ?_;conv=>whnf
   refine dm (i+1) ⟨by omega,λj hj jv=>?_⟩ (by omega) rfl;rcases Nat.lt_succ_iff_lt_or_eq.1 jv with gH|rfl
   ·exact hg j hj gH
   ·exact g7
 ·have hA:∀ m∈u.methods,qy u m:=by
   intro t ht;obtain⟨j,hj,rfl⟩:=List.mem_iff_getElem.1 ht;exact hg j hj (by omega)
  refine ay (GY _ u h iJ ok (λm hm=>(hA m hm).cls)) ?_;conv=>whnf
  have hargs:u.methods[0].args=[]:=List.eq_nil_of_length_eq_zero (by omega);exact⟨lX ⟨λhx=>hx.2.2.2.2,λhx=>⟨ok,by omega,by rw[mY];exact⟨g3,hargs,g5⟩,hA,hx⟩⟩,rfl⟩
theorem Jn (us:List Value) (u:aU) (h:Heap) (hu:dL h us u):Pure prog 39 [.agg ⟨us⟩] h (tf (eC u)):=by
 have iJ:=hu;obtain⟨p,cc,q,d,rfl,hcs,fM,jN,hl2⟩:=hu.form;have no:¬eC u->.bool false=tf (eC u):=λhx=>(eN hx).symm;refine GN au func39 F39 ZA rfl ?_;conv=>whnf
 refine ay (CL _ _ _ _ h hcs) ?_;conv=>whnf
 apply aV<;>intro ok;all_goals conv=>whnf
 ·exact⟨no (λhx=>ok hx.1),Heap.le_refl h⟩
 apply ax<;>intro g2;all_goals conv=>whnf
 ·exact⟨no (λhx=>by have:=hx.2.1;omega),Heap.le_refl h⟩
 refine ax (λzy=>?_) (λzy=>?_);all_goals conv=>whnf
 ·exact⟨no (λhx=>by have:=hx.2.1;omega),Heap.le_refl h⟩
 have h0:0 < u.methods.length:=by omega
 have mY:br u 0=u.methods[0]:=gv h0 rfl;have e:=fM.get h0;obtain⟨bb,off,vs,hq,e1,e2⟩:=e;obtain⟨p1,c1,p2,c2,p3,c3,p4,c4,e3,h1,h2,h3,h4,h5,h6,h7,h8,b1,b2,b3,b4⟩:=e2.form;subst e3;refine aq ?_;conv=>whnf
 refine aO hq ?_;conv=>whnf
 refine dK e1 ?_;conv=>whnf
 apply aV<;>intro g3;all_goals conv=>whnf
 ·exact⟨no (λhx=>g3 (by rw[<-mY];exact hx.2.2.1.1)),Heap.le_refl h⟩
 apply aV<;>intro g4;all_goals conv=>whnf
 ·exact⟨no (λhx=>by have:=hx.2.2.1.2.1;rw[mY]at this;rw[this]at g4;simp at g4),Heap.le_refl h⟩
 apply aV<;>intro g5;all_goals conv=>whnf
 ·exact⟨no (λhx=>g5 (by rw[<-mY];exact hx.2.2.1.2.2)),Heap.le_refl h⟩
 refine aD (MD h) ?_;rintro v h' ⟨b,rfl,U,rfl⟩;conv=>whnf
 have hle:h.le (h.set b (pZ jR)):=Heap.aM (Heap.le_refl h) U;have bz:(h.set b (pZ jR)) b=some (pZ jR):=by simp[Heap.set]
 generalize h.set b (pZ jR)=ED at hle bz ⊢;have CT:=iJ.le hle;have PX:Row 8 ee ED (.slice q u.methods.length d) u.methods:=fM.le hle (λ_ _ hx=>hx.le hle);refine fm [1,4,43,44,45] [1] (λi:Nat=>i<=u.methods.length/\∀ j (hj:j < u.methods.length),j < i->qy u u.methods[j]) (λi=>u.methods.length-i)
  (λi=>([.l 1 0,.v (.map (some b)),.v (.slice q u.methods.length d),.v (.int .i64 u.methods.length),.v (.int .i64 i)],[some [.slice p u.J.length cc,.slice q u.methods.length d]],ED)) 0 ⟨by omega,λ_ _ hx=>by omega⟩ rfl ?_
 rintro i ⟨hi,hg⟩;conv=>whnf
 apply ax<;>intro g6;all_goals conv=>whnf
 ·have cG:i < u.methods.length:=by omega
  have f:=PX.get cG;obtain⟨Ym,dU,oW,Jj,f1,f2⟩:=f;have f20:=f2;obtain⟨RR,Oh,RS,Oi,VP,MF,VQ,VR,f3,_⟩:=f2.form;subst f3;refine aq ?_;conv=>whnf
  refine aO Jj ?_;conv=>whnf
  refine dK f1 ?_;conv=>whnf
  refine ay (Jf _ _ u _ ED CT f20) ?_;conv=>whnf
  apply aV<;>intro g7;all_goals conv=>whnf
  ·exact⟨no (λhx=>g7 (hx.2.2.2.1 _ (List.getElem_mem _)).1),hle⟩
  refine ay (Jh _ _ u _ b ED CT f20 ok bz) ?_;conv=>whnf
  apply aV<;>intro g8;all_goals conv=>whnf
  ·exact⟨no (λhx=>g8 (hx.2.2.2.1 _ (List.getElem_mem _)).2.1),hle⟩
  refine ay (CS _ _ u _ ED CT f20 ok) ?_;conv=>whnf
  apply aV<;>intro g9;all_goals conv=>whnf
  ·exact⟨no (λhx=>g9 (hx.2.2.2.1 _ (List.getElem_mem _)).2.2),hle⟩
  ·refine aj ?_;conv=>whnf
   refine dm (i+1) ⟨by omega,λj hj jv=>?_⟩ (by omega) rfl;rcases Nat.lt_succ_iff_lt_or_eq.1 jv with gH|rfl
   ·exact hg j hj gH
   ·exact⟨g7,g8,g9⟩
 ·have hA:∀ m∈u.methods,qy u m:=by
   intro t ht;obtain⟨j,hj,rfl⟩:=List.mem_iff_getElem.1 ht;exact hg j hj (by omega)
  refine ay (ME _ u ED CT ok (λm hm=>(hA m hm).cls)) ?_;conv=>whnf
  have hargs:u.methods[0].args=[]:=List.eq_nil_of_length_eq_zero (by omega);exact⟨lX ⟨λhx=>hx.2.2.2.2,λhx=>⟨ok,by omega,by rw[mY];exact⟨g3,hargs,g5⟩,hA,hx⟩⟩,hle⟩
def je (c s:Int):List cB->Int->Int
 | [],_=>-1
 | m::r,i=>if m.cls=c/\m.eL=s then i else je c s r (i+1)
def nQ (u:aU) (s:Int):Nat->Int->Int
 | 0,_=>-1
 | k+1,c=>if 0<=c then (if 0<=je c s u.methods 0 then je c s u.methods 0 else nQ u s k (bC u.J c))else -1
def find (u:aU) (c s:Int):Int:=nQ u s (c.toNat+1) c
theorem nR {u:aU} {s:Int} (k:Nat) {c:Int} (h:c < 0):nQ u s k c = -1:=by
 cases k with
 | zero=>rfl
 | succ k=>rw[nQ,if_neg (by omega)]
theorem nS {u:aU} {c s:Int} (h:c < 0):find u c s = -1:=nR _ h
theorem vE {u:aU} (ok:cj u.J) (s:Int):∀(k:Nat) (c:Int),c < u.J.length->c.toNat < k->nQ u s k c=find u c s
 | 0,c,_,h=>by omega
 | k+1,c,hl,h=>by
  by_cases h0:0<=c
  ·have hs:=ok.bN h0 hl;unfold find;rw[nQ,nQ];simp only[h0,if_true];split
   ·rfl
   ·by_cases h1:0<=bC u.J c
    ·rw[vE ok s k _ (by omega) (by omega)];rw[<-vE ok s c.toNat _ (by omega) (by omega)]
    ·rw[nR _ (by omega),nR _ (by omega)]
  ·rw[nR _ (by omega),nS (by omega)]
theorem tW {u:aU} {c s:Int} (h0:0<=c) (h:0<=je c s u.methods 0):find u c s=je c s u.methods 0:=by
 unfold find;rw[nQ];simp[h0,h]
theorem xh {u:aU} (ok:cj u.J) {c s:Int} (h0:0<=c) (hl:c < u.J.length) (h:je c s u.methods 0 < 0):find u c s=find u (bC u.J c) s:=by
 have hs:=ok.bN h0 hl;conv=>lhs;unfold find
 rw[nQ];simp only[h0,if_true,show ¬0<=je c s u.methods 0 by omega,if_false];by_cases h1:0<=bC u.J c
 ·exact vE ok s _ _ (by omega) (by omega)
 ·rw[nR _ (by omega),nS (by omega)]
theorem vF {c s:Int}:∀(l:List cB) (i:Nat) (k:Int),(∀ j (hj:j < l.length),j < i->¬(l[j].cls=c/\l[j].eL=s))->je c s l k=je c s (l.drop i) (k+i)
 | l,0,k,_=>by simp
 | [],i+1,k,_=>by simp[je]
 | m::r,i+1,k,h=>by
  have h0:=h 0 (by simp) (by omega);simp only[List.getElem_cons_zero]at h0;rw[je,if_neg h0];rw[vF r i (k+1) (λj hj jv=>by have:=h (j+1) (by simpa using hj) (by omega);simpa using this)];simp only[List.drop_succ_cons];congr 1
  omega
theorem F0 {c s:Int} {l:List cB} {i:Nat} (hi:i < l.length) (hn:∀ j (hj:j < l.length),j < i->¬(l[j].cls=c/\l[j].eL=s)) (h:l[i].cls=c/\l[i].eL=s):je c s l 0=i:=by
 rw[vF l i 0 hn,List.drop_eq_getElem_cons hi,je,if_pos h];omega
theorem zX {c s:Int} {l:List cB} (hn:∀ j (hj:j < l.length),¬(l[j].cls=c/\l[j].eL=s)):je c s l 0 = -1:=by
 rw[vF l l.length 0 (λj hj _=>hn j hj)];simp[je]
theorem xV (us:List Value) (u:aU) (c s:Int) (h:Heap) (hu:dL h us u) (ok:cj u.J) (h0 : -1<=c) (hl:c < u.J.length) :
  Pure prog 198 [.agg ⟨us⟩,.int .i64 c,.int .i64 s] h (.int .i64 (find u c s)):=by
 obtain⟨p,cc,q,d,rfl,hcs,fM,jN,hl2⟩:=hu.form;refine gN au func198 UO UP rfl ?_;conv=>whnf
 refine fm [2,3,7] [3] (λx:Int=>-1<=x/\x < u.J.length/\find u x s=find u c s) (λx=>(x+1).toNat)
  (λx=>([.v (.int .i64 s),.l 3 0,.v (.int .i64 x)],[some [.slice p u.J.length cc,.slice q u.methods.length d]],h)) c ⟨h0,hl,rfl⟩ rfl ?_
 rintro x ⟨x0,x1,x2⟩;conv=>whnf
 apply ax<;>intro g1;all_goals conv=>whnf
 ·refine fm [2,3,7,20,21,22] [3] (λi:Nat=>i<=u.methods.length/\∀ j (hj:j < u.methods.length),j < i->¬(u.methods[j].cls=x/\u.methods[j].eL=s)) (λi=>u.methods.length-i)
   (λi=>([.v (.int .i64 s),.l 3 0,.v (.int .i64 x),.v (.slice q u.methods.length d),.v (.int .i64 u.methods.length),.v (.int .i64 i)],[some [.slice p u.J.length cc,.slice q u.methods.length d]],h)) 0 ⟨by omega,λ_ _ hx=>by omega⟩ rfl ?_
  rintro i ⟨hi,hg⟩;conv=>whnf
  apply ax<;>intro g2;all_goals conv=>whnf
  ·have sw:i < u.methods.length:=by omega
   have e:=fM.get sw;obtain⟨bb,off,vs,hq,e1,e2⟩:=e;obtain⟨p1,c1,p2,c2,p3,c3,p4,c4,e3,_⟩:=e2.form;subst e3;have go:¬(u.methods[i].cls=x/\u.methods[i].eL=s)->∀ j (hj:j < u.methods.length),j < i+1->¬(u.methods[j].cls=x/\u.methods[j].eL=s):=by
    intro hx j hj jv;rcases Nat.lt_succ_iff_lt_or_eq.1 jv with gH|rfl
    ·exact hg j hj gH
    ·exact hx
   refine aq ?_;conv=>whnf
   refine aO hq ?_;conv=>whnf
   refine dK e1 ?_;conv=>whnf
   apply ax<;>intro g3;all_goals conv=>whnf
   ·apply ax<;>intro g4;all_goals conv=>whnf
    ·have ho:=F0 sw hg ⟨g3,g4⟩;exact⟨by rw[<-x2,tW g1 (by omega),ho],rfl⟩
    ·refine aj ?_;conv=>whnf
     refine dm (i+1) ⟨by omega,go (λhx=>g4 hx.2)⟩ (by omega) rfl
   ·refine aj ?_;conv=>whnf
    refine dm (i+1) ⟨by omega,go (λhx=>g3 hx.1)⟩ (by omega) rfl
  ·have ho:je x s u.methods 0 = -1:=zX (λj hj=>hg j hj (by omega));have xj:x.toNat < u.J.length:=by omega
   have e:=hcs.at xj;obtain⟨bb,off,q',k',d',hp,_,e2,_,_,_,_⟩:=e;have hs:=ok.bN g1 x1;have CN:bC u.J x=u.J[x.toNat].bN:=by simp[bC,xj]
   refine aq ?_;conv=>whnf
   refine aO hp ?_;conv=>whnf
   refine ld e2 ?_;conv=>whnf
   refine dm (u.J[x.toNat].bN) ⟨by omega,by omega,?_⟩ (by omega) rfl;rw[<-x2,xh ok g1 x1 (by omega),CN]
 ·exact⟨by rw[<-x2,nS (by omega)],rfl⟩
theorem tX (us:List Value) (u:aU) (c s:Int) (h:Heap) (hu:dL h us u) (ok:cj u.J) (h0 : -1<=c) (hl:c < u.J.length) :
  Pure prog 164 [.agg ⟨us⟩,.int .i64 c,.int .i64 s] h (.int .i64 (find u c s)):=by
 obtain⟨p,cc,q,d,rfl,hcs,fM,jN,hl2⟩:=hu.form;refine gN au func164 T0 T1 rfl ?_;conv=>whnf
 refine fm [1,2,3] [3] (λx:Int=>-1<=x/\x < u.J.length/\find u x s=find u c s) (λx=>(x+1).toNat)
  (λx=>([.v (.int .i64 x),.v (.int .i64 s),.l 3 0],[some [.slice p u.J.length cc,.slice q u.methods.length d]],h)) c ⟨h0,hl,rfl⟩ rfl ?_
 rintro x ⟨x0,x1,x2⟩;conv=>whnf
 apply ax<;>intro g1;all_goals conv=>whnf
 ·refine fm [1,2,3,7] [3] (λi:Nat=>i<=u.methods.length/\∀ j (hj:j < u.methods.length),j < i->¬(u.methods[j].cls=x/\u.methods[j].eL=s)) (λi=>u.methods.length-i)
   (λi=>([.v (.int .i64 x),.v (.int .i64 s),.l 3 0,.v (.int .i64 i)],[some [.slice p u.J.length cc,.slice q u.methods.length d]],h)) 0 ⟨by omega,λ_ _ hx=>by omega⟩ rfl ?_
  rintro i ⟨hi,hg⟩;conv=>whnf
  apply ax<;>intro g2;all_goals conv=>whnf
  ·have sw:i < u.methods.length:=by omega
   have e:=fM.get sw;obtain⟨bb,off,vs,hq,e1,e2⟩:=e;obtain⟨p1,c1,p2,c2,p3,c3,p4,c4,e3,_⟩:=e2.form;subst e3;have go:¬(u.methods[i].cls=x/\u.methods[i].eL=s)->∀ j (hj:j < u.methods.length),j < i+1->¬(u.methods[j].cls=x/\u.methods[j].eL=s):=by
    intro hx j hj jv;rcases Nat.lt_succ_iff_lt_or_eq.1 jv with gH|rfl
    ·exact hg j hj gH
    ·exact hx
   have r0:=aK e1 (i:=0) rfl;have r1:=aK e1 (i:=1) rfl;refine aq ?_;conv=>whnf
   refine aO hq ?_;conv=>whnf
   refine ld r0 ?_;conv=>whnf
   apply ax<;>intro g3;all_goals conv=>whnf
   ·refine aq ?_;conv=>whnf
    refine aO hq ?_;conv=>whnf
    refine ld r1 ?_;conv=>whnf
    apply ax<;>intro g4;all_goals conv=>whnf
    ·have ho:=F0 sw hg ⟨g3,g4⟩;exact⟨by rw[<-x2,tW (by omega) (by omega),ho],rfl⟩
    ·refine aj ?_;conv=>whnf
     refine dm (i+1) ⟨by omega,go (λhx=>g4 hx.2)⟩ (by omega) rfl
   ·refine aj ?_;conv=>whnf
    refine dm (i+1) ⟨by omega,go (λhx=>g3 hx.1)⟩ (by omega) rfl
  ·have ho:je x s u.methods 0 = -1:=zX (λj hj=>hg j hj (by omega));have xj:x.toNat < u.J.length:=by omega
   have e:=hcs.at xj;obtain⟨bb,off,q',k',d',hp,_,e2,_,_,_,_⟩:=e;have hs:=ok.bN (a:=x) (by omega) x1;have CN:bC u.J x=u.J[x.toNat].bN:=by simp[bC,xj]
   refine aq ?_;conv=>whnf
   refine aO hp ?_;conv=>whnf
   refine ld e2 ?_;conv=>whnf
   refine dm (u.J[x.toNat].bN) ⟨by omega,by omega,?_⟩ (by omega) rfl;rw[<-x2,xh ok (c:=x) (by omega) x1 (by omega),CN]
 ·exact⟨by rw[<-x2,nS (by omega)],rfl⟩
def rB (u:aU) (x:dX):Int:=if x.kind=20 then x.a else if x.kind=21 then find u x.a x.b else -1
theorem EE (us:List Value) (u:aU) (x:dX) (h:Heap) (hu:dL h us u) (ok:cj u.J) (hx:x.kind=21->-1<=x.a/\x.a < u.J.length) :
  Pure prog 215 [.agg ⟨us⟩,.agg #[.int .i64 x.kind,.int .i64 x.a,.int .i64 x.b]] h (.int .i64 (rB u x)):=by
 have iJ:=hu;obtain⟨p,cc,q,d,rfl,hcs,fM,jN,hl2⟩:=hu.form;refine gN au func215 Vi Vj rfl ?_;conv=>whnf
 apply ax<;>intro g1;all_goals conv=>whnf
 ·exact⟨by simp[rB,g1],rfl⟩
 apply ax<;>intro g2;all_goals conv=>whnf
 ·refine ay (xV _ u _ _ h iJ ok (hx g2).1 (hx g2).2) ?_;conv=>whnf
  exact⟨by simp[rB,g2],rfl⟩
 ·exact⟨by simp[rB,g1,g2],rfl⟩
theorem xW (a:Int) (h:Heap):Pure prog 203 [.int .i64 a] h (.int .i64 (if a=0 then 1 else 8)):=by
 refine gN au func203 UZ U0 rfl ?_;conv=>whnf
 repeat' ((first|apply ax<;>intro _|apply aV<;>intro _|apply dS<;>intro _|apply bY<;>intro _|refine aq ?_|refine aj ?_|refine ptr ?_)<;>conv=>whnf)
 all_goals exact⟨by simp[*],rfl⟩
theorem oX (a:Int) (h:Heap):Pure prog 201 [.int .i64 a] h (.int .i64 (if a=0 then -1 else -2)):=by
 refine gN au func201 UU UW rfl ?_;conv=>whnf
 repeat' ((first|apply ax<;>intro _|apply aV<;>intro _|apply dS<;>intro _|apply bY<;>intro _|refine aq ?_|refine aj ?_|refine ptr ?_)<;>conv=>whnf)
 all_goals exact⟨by simp[*],rfl⟩
theorem CU (a:Int) (h:Heap):Pure prog 217 [.int .i64 a] h (.agg #[.bool (!decide (a=1)),.int .i64 0]):=by
 refine gN au func217 Vn Vo rfl ?_;conv=>whnf
 repeat' ((first|apply ax<;>intro _|apply aV<;>intro _|apply dS<;>intro _|apply bY<;>intro _|refine aq ?_|refine aj ?_|refine ptr ?_)<;>conv=>whnf)
 all_goals exact⟨rfl,rfl⟩
theorem Jo (c:mU) (n:Int) (h:Heap):Pure prog 143 [.agg #[.int .i64 c.lo,.int .i64 c.hi,.int .i64 c.to,.int .i64 c.cls],.int .i64 n] h (.bool (decide (c.lo<=n/\n < c.hi))):=by
 refine gN au func143 Tl Tm rfl ?_;conv=>whnf
 repeat' ((first|apply ax<;>intro _|apply aV<;>intro _|apply dS<;>intro _|apply bY<;>intro _|refine aq ?_|refine aj ?_|refine ptr ?_)<;>conv=>whnf)
 all_goals exact⟨by simp;omega,rfl⟩
theorem CV (a n b:Int) (h:Heap):Pure prog 40 [.int .i64 a,.int .i64 n,.int .i64 b] h (.bool (decide (a<=n/\n<=b))):=by
 refine gN au func40 F40 ZB rfl ?_;conv=>whnf
 repeat' ((first|apply ax<;>intro _|apply aV<;>intro _|apply dS<;>intro _|apply bY<;>intro _|refine aq ?_|refine aj ?_|refine ptr ?_)<;>conv=>whnf)
 all_goals exact⟨by simp;omega,rfl⟩
def typeOf (c:Int):Int:=if c = -1 then 3 else if c = -2 then 4 else 8+c
theorem GZ (c:Int) (h:Heap) (hc : -2<=c/\c<=1000):Pure prog 221 [.int .i64 c] h (.int .i64 (typeOf c)):=by
 refine gN au func221 Vv Vw rfl ?_;conv=>whnf
 repeat' ((first|apply ax<;>intro _|apply aV<;>intro _|apply dS<;>intro _|apply bY<;>intro _|refine aq ?_|refine aj ?_|refine ptr ?_)<;>conv=>whnf)
 all_goals exact⟨by simp[typeOf, *],rfl⟩
def ju (cs:List dR) (a b:Int):Bool :=
 if a=b\/b=0 then true else if a=2 then decide (2<=b)else if a < 2\/b < 8 then false else if a < 8 then decide (b=8)else up cs (a-8) (b-8)
theorem tY (a:Int) (h:Heap):Pure prog 123 [.int .i64 a] h (.bool (decide (2<=a))):=by
 refine gN au func123 SO SP rfl ?_;conv=>whnf
 exact⟨rfl,rfl⟩
theorem vG (p:Option Addr) (n c:Nat) (cs:List dR) (a b:Int) (h:Heap) (hr:fo h (.slice p n c) cs) (ok:cj cs) (ha:a < 8+cs.length) (U:b < 8+cs.length) :
  Pure prog 62 [.slice p n c,.int .i64 a,.int .i64 b] h (.bool (ju cs a b)):=by
 have hn:=hr.n;have hl:=ok.2.1;refine gN au func62 F62 ZN rfl ?_;conv=>whnf
 apply ax<;>intro g1;all_goals conv=>whnf
 ·exact⟨by simp[ju,g1],rfl⟩
 apply ax<;>intro g2;all_goals conv=>whnf
 ·exact⟨by simp[ju,g2],rfl⟩
 apply ax<;>intro g3;all_goals conv=>whnf
 ·refine ay (tY _ _) ?_;conv=>whnf
  exact⟨by unfold ju;rw[if_neg (by omega),if_pos g3],rfl⟩
 refine ay (tY _ _) ?_;conv=>whnf
 apply aV<;>intro g4;all_goals conv=>whnf
 ·exact⟨by unfold ju;rw[if_neg (by omega),if_neg g3,if_pos (by omega)],rfl⟩
 apply ax<;>intro g5;all_goals conv=>whnf
 ·exact⟨by unfold ju;rw[if_neg (by omega),if_neg g3,if_pos (by omega)],rfl⟩
 apply ax<;>intro g6;all_goals conv=>whnf
 ·exact⟨by unfold ju;rw[if_neg (by omega),if_neg g3,if_neg (by omega),if_pos g6],rfl⟩
 ·refine aj ?_;conv=>whnf
  refine aj ?_;conv=>whnf
  refine ay (sM _ _ _ _ _ _ _ hr ok (by omega) (by omega) (by omega)) ?_;conv=>whnf
  exact⟨by unfold ju;rw[if_neg (by omega),if_neg g3,if_neg (by omega),if_neg g6],rfl⟩
theorem AR (c d:Int) (w:World):(Go.binOp .eql 175 (.iface 182 (.agg #[.int .i64 c])) (.iface 182 (.agg #[.int .i64 d]))).run prog w=.ok (.bool (c==d)) w :=
 by
 refine IV c d (λw=>rfl) (λw=>rfl) rfl rfl ?_ ?_ rfl ?_ w
 ·kernel_rfl
 ·decide
 ·intro x w;rfl
theorem AS (c d:Bool) (w:World):(Go.binOp .eql 175 (.iface 180 (.agg #[.bool c])) (.iface 180 (.agg #[.bool d]))).run prog w=.ok (.bool (c==d)) w:=by
 refine GO c d (λw=>rfl) (λw=>rfl) rfl rfl ?_ ?_ rfl ?_ w
 ·kernel_rfl
 ·decide
 ·intro x w;rfl
theorem Jp (p:Option Addr) (n c:Nat) (cs:List dR) (a b:Int) (h:Heap) (hr:fo h (.slice p n c) cs) (ok:cj cs)
  (ha:a=0\/a=1\/a=2\/a=3\/a=4\/(8<=a/\a < 8+cs.length)) (U:b=0\/b=1\/b=2\/b=3\/b=4\/(8<=b/\b < 8+cs.length)) :
  Pure prog 220 [.slice p n c,eA cs.length a,eA cs.length b] h (.bool (ju cs a b)):=by
 have hn:=hr.n;have hl:=ok.2.1;have hka:8<=a/\a < 8+cs.length->eA cs.length a=.iface 182 (.agg #[.int .i64 (a-8)]):=by intro hx;simp only[eA];(repeat' split)<;>first|rfl|(exfalso;omega)
 have Ye:8<=b/\b < 8+cs.length->eA cs.length b=.iface 182 (.agg #[.int .i64 (b-8)]):=by intro hx;simp only[eA];(repeat' split)<;>first|rfl|(exfalso;omega)
 have k0:∀ m:Nat,eA m 0=.iface 204 (.agg #[]):=λm=>by simp[eA]
 have k1:∀ m:Nat,eA m 1=.iface 178 (.agg #[]):=λm=>by simp[eA]
 have k2:∀ m:Nat,eA m 2=.iface 205 (.agg #[]):=λm=>by simp[eA]
 have k3:∀ m:Nat,eA m 3=.iface 180 (.agg #[.bool false]):=λm=>by simp[eA]
 have k4:∀ m:Nat,eA m 4=.iface 180 (.agg #[.bool true]):=λm=>by simp[eA]
 rcases ha with rfl|rfl|rfl|rfl|rfl|ha<;>rcases U with rfl|rfl|rfl|rfl|rfl|U
 all_goals (try simp only[k0,k1,k2,k3,k4])
 all_goals (try rw[hka (by assumption)])
 all_goals (try rw[Ye (by assumption)])
 all_goals
  refine gN au func220 Vt Vu rfl ?_;conv=>whnf
  repeat' ((first
   | apply ax<;>intro _
   | apply dS<;>intro _
   | refine jd (r:=.bool true) rfl rfl (λw=>rfl) (λw=>rfl) ?_
   | refine jd (r:=.bool false) rfl rfl (λw=>rfl) (λw=>rfl) ?_
   | refine jd rfl rfl (λw=>rfl) (AR _ _) ?_
   | refine jd rfl rfl (λw=>rfl) (AS _ _) ?_
   | refine eR rfl (λw=>rfl) ?_
   | refine ay (rj _ _ _ _ _ _ _ hr ok (by omega) (by omega)) ?_)<;>conv=>whnf)
  all_goals first
   | exact⟨rfl,rfl⟩
   | (refine⟨?_,rfl⟩;congr 1;unfold ju;(repeat' split)<;>first|rfl|(exfalso;omega)|(rw[Bool.eq_iff_iff];simp;omega))
def EF (n:Nat) (a:Int):Prop:=a=0\/a=1\/a=2\/a=3\/a=4\/(8<=a/\a < 8+n)
theorem Jq (p:Option Addr) (n c:Nat) (cs:List dR) (a b:Int) (h:Heap) (hr:fo h (.slice p n c) cs) (ok:cj cs) (ha:EF cs.length a) (U:EF cs.length b) :
  Pure prog 207 [.slice p n c,.int .i64 a,.int .i64 b] h (.bool (ju cs a b)):=by
 have hn:=hr.n;subst hn;have hl:=ok.2.1;have hI:cL a/\cL b:=by
  unfold EF at ha U;refine⟨⟨?_,?_⟩,⟨?_,?_⟩⟩<;>omega
 have hna:∃ t v,eA cs.length a=.iface t v:=by
  rcases ha with rfl|rfl|rfl|rfl|rfl|ha;all_goals first|exact⟨_,_,rfl⟩|exact⟨182,.agg #[.int .i64 (a-8)],by simp only[eA];(repeat' split)<;>first|rfl|(exfalso;omega)⟩
 have sH:∃ t v,eA cs.length b=.iface t v:=by
  rcases U with rfl|rfl|rfl|rfl|rfl|U;all_goals first|exact⟨_,_,rfl⟩|exact⟨182,.agg #[.int .i64 (b-8)],by simp only[eA];(repeat' split)<;>first|rfl|(exfalso;omega)⟩
 obtain⟨ta,va,hka⟩:=hna;obtain⟨tb,vb,Ye⟩:=sH;have c1:=tS cs.length a h (by omega) hI.1;have c2:=tS cs.length b h (by omega) hI.2;have c3:=Jp p cs.length c cs a b h hr ok ha U;rw[hka]at c1 c3;rw[Ye]at c2 c3;refine gN au func207 U5 U6 rfl ?_;conv=>whnf
 refine ay c1 ?_;conv=>whnf
 refine ay c2 ?_;conv=>whnf
 refine jd (r:=.bool true) rfl rfl (λw=>rfl) (λw=>rfl) ?_;conv=>whnf
 refine jd (r:=.bool true) rfl rfl (λw=>rfl) (λw=>rfl) ?_;conv=>whnf
 refine ay c3 ?_;conv=>whnf
 exact⟨rfl,rfl⟩
def bR (x:Vl):List Value:=[.bool x.ref,.int .i64 x.n]
abbrev cq (h:Heap) (v:Value) (l:List Vl) (B:List Nat):Prop:=cn 2 h v (l.map bR) B
def lu (h:Heap) (x:List Value) (o:Ob) (B:List Nat):Prop:=∃ v,x=[.int .i64 o.cls,v]/\cq h v o.bE B
def oY (h:Heap) (x:List Value) (f:bU) (B:List Nat):Prop:=∃ v1 v2 B1 B2,x=[.int .i64 f.ah,.int .i64 f.pc,v1,v2]/\cq h v1 f.locals B1/\cq h v2 f.stack B2/\B=B1++B2
inductive Rows {α:Type} (R:Heap->List Value->α->List Nat->Prop) (h:Heap):List (List Value)->List α->List Nat->Prop where
 | nil:Rows R h [] [] []
 | cons {x:List Value} {a:α} {B1:List Nat} {xs:List (List Value)} {l:List α} {B2:List Nat} (h1:R h x a B1) (h2:Rows R h xs l B2):Rows R h (x::xs) (a::l) (B1++B2)
def eE {α:Type} (R:Heap->List Value->α->List Nat->Prop) (sz:Nat) (h:Heap) (v:Value) (l:List α) (B:List Nat):Prop:=∃ xs B0 B1,cn sz h v xs B0/\Rows R h xs l B1/\B=B0++B1
def gJ (h:Heap) (mc:List Value) (m:bZ) (B:List Nat):Prop:=∃ vo vf vs B1 B2 B3,mc=[vo,vf,vs,.int .i64 m.steps,.int .i64 m.fin,.bool m.out.ref,.int .i64 m.out.n] /\
 eE lu 2 h vo m.objs B1/\eE oY 4 h vf m.ag B2/\dV h vs m.said B3/\B=B1++B2++B3
def cC (h h':Heap) (B:List Nat):Prop:=∀ b∈B,∀ o,h b=some o->h' b=some o
theorem cC.of_le {h h':Heap} (hl:h.le h') (B:List Nat):cC h h' B:=λb _ o ho=>hl b o ho
theorem cC.sub {h h':Heap} {A B:List Nat} (hk:cC h h' B) (hs:∀ b∈A,b∈B):cC h h' A:=λb U=>hk b (hs b U)
theorem cC.l {h h':Heap} {A B:List Nat} (hk:cC h h' (A++B)):cC h h' A:=hk.sub λb U=>List.mem_append.2 (.inl U)
theorem cC.r {h h':Heap} {A B:List Nat} (hk:cC h h' (A++B)):cC h h' B:=hk.sub λb U=>List.mem_append.2 (.inr U)
theorem cn.aG {sz:Nat} {h h':Heap} {v:Value} {xs:List (List Value)} {B:List Nat} (hk:cC h h' B) (ho:cn sz h v xs B):cn sz h' v xs B:=by
 obtain⟨h1,h2⟩:=ho;refine⟨h1,h2.imp id ?_⟩;rintro⟨b,c,rest,t,e1,e2,e3,e4,rfl⟩;exact⟨b,c,rest,t,e1,e2,hk b (by simp) _ e3,e4,rfl⟩
theorem lu.aG {h h':Heap} {x:List Value} {o:Ob} {B:List Nat} (hk:cC h h' B) (ho:lu h x o B):lu h' x o B:=by
 obtain⟨v,h1,h2⟩:=ho;exact⟨v,h1,h2.aG hk⟩
theorem oY.aG {h h':Heap} {x:List Value} {f:bU} {B:List Nat} (hk:cC h h' B) (ho:oY h x f B):oY h' x f B:=by
 obtain⟨v1,v2,B1,B2,h1,h2,h3,rfl⟩:=ho;exact⟨v1,v2,B1,B2,h1,h2.aG hk.l,h3.aG hk.r,rfl⟩
def Kept {α:Type} (R:Heap->List Value->α->List Nat->Prop):Prop:=∀(h h':Heap) (x:List Value) (a:α) (B:List Nat),cC h h' B->R h x a B->R h' x a B
theorem Rows.aG {α:Type} {R:Heap->List Value->α->List Nat->Prop} (hR:Kept R) {h h':Heap} {xs:List (List Value)} {l:List α} {B:List Nat} (hr:Rows R h xs l B):cC h h' B->Rows R h' xs l B:=by
 induction hr with
 | nil=>exact λ_=>.nil
 | cons h1 _ ih=>exact λhk=>.cons (hR _ _ _ _ _ hk.l h1) (ih hk.r)
theorem eE.aG {α:Type} {R:Heap->List Value->α->List Nat->Prop} (hR:Kept R) {sz:Nat} {h h':Heap} {v:Value} {l:List α} {B:List Nat} (hk:cC h h' B) (ho:eE R sz h v l B):eE R sz h' v l B:=by
 obtain⟨xs,B0,B1,h1,h2,rfl⟩:=ho;exact⟨xs,B0,B1,h1.aG hk.l,h2.aG hR hk.r,rfl⟩
theorem jD:Kept lu:=λ_ _ _ _ _=>lu.aG
theorem qz:Kept oY:=λ_ _ _ _ _=>oY.aG
theorem gJ.aG {h h':Heap} {mc:List Value} {m:bZ} {B:List Nat} (hk:cC h h' B) (ho:gJ h mc m B):gJ h' mc m B:=by
 obtain⟨vo,vf,vs,B1,B2,B3,h1,h2,h3,h4,rfl⟩:=ho;exact⟨vo,vf,vs,B1,B2,B3,h1,h2.aG jD hk.l.l,h3.aG qz hk.l.r,h4.aG hk.r,rfl⟩
theorem Rows.len {α:Type} {R:Heap->List Value->α->List Nat->Prop} {h:Heap} {xs:List (List Value)} {l:List α} {B:List Nat} (hr:Rows R h xs l B):xs.length=l.length:=by
 induction hr with
 | nil=>rfl
 | cons _ _ ih=>simp[ih]
theorem Rows.app {α:Type} {R:Heap->List Value->α->List Nat->Prop} {h:Heap} {xs ys:List (List Value)} {l k:List α} {A B:List Nat} (h1:Rows R h xs l A) (h2:Rows R h ys k B):Rows R h (xs++ys) (l++k) (A++B):=by
 induction h1 with
 | nil=>exact h2
 | cons a _ ih=>simp only[List.cons_append,List.append_assoc];exact .cons a ih
theorem Rows.one {α:Type} {R:Heap->List Value->α->List Nat->Prop} {h:Heap} {x:List Value} {a:α} {B:List Nat} (h1:R h x a B):Rows R h [x] [a] B:=by
 have:=Rows.cons h1 (Rows.nil (R:=R) (h:=h));simpa using this
theorem Rows.split {α:Type} {R:Heap->List Value->α->List Nat->Prop} {h:Heap}:∀ {l k:List α} {xs:List (List Value)} {B:List Nat},Rows R h xs (l++k) B ->
  ∃ ys zs A C,xs=ys++zs/\B=A++C/\Rows R h ys l A/\Rows R h zs k C
 | [],k,xs,B,hr=>⟨[],xs,[],B,rfl,rfl,.nil,hr⟩
 | a::l,k,xs,B,hr=>by
  cases hr with
  | cons h1 h2 =>
   obtain⟨ys,zs,A,C,rfl,rfl,h3,h4⟩:=Rows.split h2;exact⟨_::ys,zs,_,C,rfl,by simp,.cons h1 h3,h4⟩
theorem Rows.single {α:Type} {R:Heap->List Value->α->List Nat->Prop} {h:Heap} {xs:List (List Value)} {a:α} {B:List Nat} (hr:Rows R h xs [a] B):∃ x,xs=[x]/\R h x a B:=by
 cases hr with
 | cons h1 h2=>cases h2;exact⟨_,rfl,by simpa using h1⟩
theorem cn.in {sz:Nat} {h:Heap} {v:Value} {xs:List (List Value)} {B:List Nat} (ho:cn sz h v xs B):∀ b∈B,∃ o,h b=some o:=by
 obtain⟨_,⟨_,_,rfl⟩|⟨b,c,rest,t,_,_,e3,_,rfl⟩⟩:=ho
 ·simp
 ·simp[e3]
def MG {α:Type} (R:Heap->List Value->α->List Nat->Prop):Prop:=∀(h:Heap) (x:List Value) (a:α) (B:List Nat),R h x a B->∀ b∈B,∃ o,h b=some o
theorem Rows.in {α:Type} {R:Heap->List Value->α->List Nat->Prop} (hR:MG R) {h:Heap} {xs:List (List Value)} {l:List α} {B:List Nat} (hr:Rows R h xs l B):∀ b∈B,∃ o,h b=some o:=by
 induction hr with
 | nil=>simp
 | cons h1 _ ih=>exact λb U=>(List.mem_append.1 U).elim (hR _ _ _ _ h1 b) (ih b)
theorem lu.in {h:Heap} {x:List Value} {o:Ob} {B:List Nat} (ho:lu h x o B):∀ b∈B,∃ o,h b=some o:=by
 obtain⟨v,_,h2⟩:=ho;exact h2.in
theorem oY.in {h:Heap} {x:List Value} {f:bU} {B:List Nat} (ho:oY h x f B):∀ b∈B,∃ o,h b=some o:=by
 obtain⟨v1,v2,B1,B2,_,h2,h3,rfl⟩:=ho;exact λb U=>(List.mem_append.1 U).elim (h2.in b) (h3.in b)
theorem xX:MG lu:=λ_ _ _ _=>lu.in
theorem VT:MG oY:=λ_ _ _ _=>oY.in
theorem eE.in {α:Type} {R:Heap->List Value->α->List Nat->Prop} (hR:MG R) {sz:Nat} {h:Heap} {v:Value} {l:List α} {B:List Nat} (ho:eE R sz h v l B):∀ b∈B,∃ o,h b=some o:=by
 obtain⟨xs,B0,B1,h1,h2,rfl⟩:=ho;exact λb U=>(List.mem_append.1 U).elim (h1.in b) (h2.in hR b)
theorem gJ.in {h:Heap} {mc:List Value} {m:bZ} {B:List Nat} (ho:gJ h mc m B):∀ b∈B,∃ o,h b=some o:=by
 obtain⟨vo,vf,vs,B1,B2,B3,_,h2,h3,h4,rfl⟩:=ho;intro b U;rcases List.mem_append.1 U with U|U
 ·rcases List.mem_append.1 U with U|U
  ·exact h2.in xX b U
  ·exact h3.in VT b U
 ·exact h4.in b U
structure Ev (h h':Heap) (S S':List Nat):Prop where
 ic:∀ b,h b≠none->b ∉ S->h' b=h b
 new:∀ b∈S',b∈S\/h b=none
theorem Ev.refl (h:Heap) (S:List Nat):Ev h h S S:=⟨λ_ _ _=>rfl,λ_ U=>.inl U⟩
theorem Ev.trans {h h1 h2:Heap} {S S1 S2:List Nat} (a:Ev h h1 S S1) (b:Ev h1 h2 S1 S2):Ev h h2 S S2 where
 ic c hc hs:=by
  have h1c:=a.ic c hc hs;rw[b.ic c (by rw[h1c];exact hc) (λhm=>(a.new c hm).elim hs hc),h1c]
 new c hc:=by
  rcases b.new c hc with hm|hm
  ·exact a.new c hm
  ·by_cases hs:c∈S
   ·exact .inl hs
   ·by_cases hn:h c=none
    ·exact .inr hn
    ·rw[a.ic c hn hs]at hm;exact absurd hm hn
theorem Ev.le {h0 h h':Heap} {S S':List Nat} (ev:Ev h h' S S') (hl:h0.le h) (hs:∀ b∈S,h0 b=none):h0.le h':=by
 intro b o ho;have h1:=hl b o ho;rw[ev.ic b (by rw[h1];simp) (λhm=>by rw[hs b hm]at ho;cases ho)];exact h1
theorem Ev.fresh {h0 h h':Heap} {S S':List Nat} (ev:Ev h h' S S') (hl:h0.le h) (hs:∀ b∈S,h0 b=none):∀ b∈S',h0 b=none:=by
 intro b U;rcases ev.new b U with hm|hm
 ·exact hs b hm
 ·cases hh:h0 b with
  | none=>rfl
  | some o=>rw[hl b o hh]at hm;cases hm
theorem Ev.aG {h h':Heap} {S S' A:List Nat} (ev:Ev h h' S S') (hd:∀ b∈A,b ∉ S):cC h h' A:=λb U o ho=>by rw[ev.ic b (by rw[ho];simp) (hd b U)];exact ho
theorem Ev.of_le {h h':Heap} {S:List Nat} (hl:h.le h') (S':List Nat) (hs:∀ b∈S',b∈S\/h b=none):Ev h h' S S' where
 ic b U _:=by
  cases hh:h b with
  | none=>exact absurd hh U
  | some o=>exact hl b o hh
 new:=hs
theorem Ev.more {h h':Heap} {S S':List Nat} (ev:Ev h h' S S') (A:List Nat):Ev h h' (A++S) (A++S') where
 ic b U hs:=ev.ic b U (λhm=>hs (List.mem_append.2 (.inr hm)))
 new b U:=by
  rcases List.mem_append.1 U with U|U
  ·exact .inl (List.mem_append.2 (.inl U))
  ·exact(ev.new b U).imp (λhm=>List.mem_append.2 (.inr hm)) id
theorem ec {h:Heap} {b:Nat} {cs:List Value} {t:TypeId} {fz:Nat × Nat} (U:h b=some (.cells cs.toArray t fz)) {i:Nat} {v:Value} (hv:cs[i]? = some v):rd h b i=some v:=by
 simp[rd,U,hv]
theorem F1 {pre x post:List Value} {i:Nat} {v:Value} (hv:x[i]? = some v):(pre++x++post)[pre.length+i]? = some v:=by
 have hi:i < x.length:=(List.getElem?_eq_some_iff.1 hv).1;rw[List.append_assoc,List.getElem?_append_right (by omega),Nat.add_sub_cancel_left,List.getElem?_append_left hi];exact hv
theorem bG {h:Heap} {b:Nat} {pre x post:List Value} {t:TypeId} {fz:Nat × Nat} (U:h b=some (.cells (pre++x++post).toArray t fz)) {i n:Nat} {v:Value} (hn:n=pre.length+i) (hv:x[i]? = some v):rd h b n=some v:=by
 subst hn;exact ec U (F1 hv)
theorem nu {pre x post:List Value} {i n:Nat} {v:Value} (hn:n=pre.length+i) (hi:i < x.length):ep (pre++x++post) n [v]=pre++x.set i v++post:=by
 subst hn;simp only[ep,vh];rw[List.append_assoc,List.set_append,if_neg (by omega),Nat.add_sub_cancel_left,List.set_append,if_pos hi,List.append_assoc]
def Nd (l:List Nat):Prop:=∀ a,l.count a<=1
theorem Nd.perm {l k:List Nat} (h:Nd l) (hp:∀ a,k.count a=l.count a):Nd k:=λa=>by rw[hp a];exact h a
theorem Nd.less {l k:List Nat} (h:Nd l) (hp:∀ a,k.count a<=l.count a):Nd k:=λa=>Nat.le_trans (hp a) (h a)
theorem Nd.swap {A X X':List Nat} (h:Nd (A++X)) (hx:Nd X') (hn:∀ b∈X',b∈X\/b ∉ A):Nd (A++X'):=by
 intro a;have h1:=h a;have h2:=hx a;simp only[List.count_append]at h1 ⊢;by_cases hm:a∈X'
 ·have:A.count a=0:=by
   rcases hn a hm with h3|h3
   ·have:=List.count_pos_iff.2 h3;omega
   ·exact List.count_eq_zero.2 h3
  omega
 ·have:=List.count_eq_zero.2 hm;omega
theorem cn.nd {sz:Nat} {h:Heap} {v:Value} {xs:List (List Value)} {B:List Nat} (ho:cn sz h v xs B):Nd B:=by
 obtain⟨_,⟨_,_,rfl⟩|⟨b,c,rest,t,_,_,_,_,rfl⟩⟩:=ho
 ·intro a;simp
 ·intro a;simp only[List.count_cons,List.count_nil];split<;>omega
theorem ij {l k:List Nat} (hp:∀ a,k.count a=l.count a) (b:Nat):b∈k↔b∈l:=by
 rw[<-List.count_pos_iff,<-List.count_pos_iff,hp b]
theorem eE.at {α:Type} {R:Heap->List Value->α->List Nat->Prop} (hR:Kept R) {sz:Nat} {h:Heap} {v:Value} {l1 l2:List α} {a:α} {B:List Nat} (ho:eE R sz h v (l1++a::l2) B) :
  ∃ b c x pre post t Bo Bi,v=.slice (some ⟨b,0,none⟩) (l1.length+l2.length+1) c/\l1.length+l2.length+1<=c/\h b=some (.cells (pre++x++post).toArray t (0,0))/\pre.length=l1.length*sz/\x.length=sz/\R h x a Bi /\
   (∀ n,B.count n=(b::Bo++Bi).count n) /\
   ∀ h' x' a' VU,h' b=some (.cells (pre++x'++post).toArray t (0,0))->x'.length=sz->R h' x' a' VU->cC h h' Bo->∃ B',eE R sz h' v (l1++a'::l2) B'/\∀ n,B'.count n=(b::Bo++VU).count n:=by
 obtain⟨xs,B0,B1,⟨hx,hc⟩,h2,rfl⟩:=ho;obtain⟨ys,zs,A,C,rfl,rfl,h3,h4⟩:=Rows.split h2;cases h4 with
 | @cons x _ Bi zs _ C h5 h6 =>
 have jN:=h3.len;have hl2:=h6.len;rcases hc with ⟨_,hn,_⟩|⟨b,c,rest,t,rfl,gG,U,hlen,rfl⟩
 ·simp at hn
 refine⟨b,c,x,ys.flatten,zs.flatten++rest,t,A++C,Bi,?_,?_,?_,?_,hx x (by simp),h5,?_,?_⟩
 ·simp[jN,hl2];omega
 ·simp[jN,hl2]at gG;omega
 ·rw[U];simp
 ·rw[bQ (sz:=sz) (λy hy=>hx y (by simp[hy])),jN]
 ·intro n;simp[List.count_append,List.count_cons];omega
 ·intro h' x' a' VU bz xY hR' hk;refine⟨[b]++(A++(VU++C)),⟨ys++x'::zs,[b],A++(VU++C),⟨?_,.inr ⟨b,c,rest,t,by simp,by simpa using gG,by rw[bz];simp,?_,rfl⟩⟩,(h3.aG hR hk.l).app (.cons hR' (h6.aG hR hk.r)),rfl⟩,?_⟩
  ·intro y hy;simp only[List.mem_append,List.mem_cons]at hy;rcases hy with hy|rfl|hy
   ·exact hx y (by simp[hy])
   ·exact xY
   ·exact hx y (by simp[hy])
  ·have:=hx x (by simp);simp only[List.flatten_append,List.flatten_cons,List.length_append]at hlen ⊢;omega
  ·intro n;simp[List.count_append,List.count_cons];omega
theorem eE.pop {α:Type} {R:Heap->List Value->α->List Nat->Prop} {sz:Nat} {h:Heap} {p:Option Addr} {n c:Nat} {l:List α} {a:α} {B:List Nat} (ho:eE R sz h (.slice p n c) (l++[a]) B) :
  n=l.length+1/\∃ B',eE R sz h (.slice p l.length c) l B'/\∀ n,B'.count n<=B.count n:=by
 obtain⟨xs,B0,B1,⟨hx,hc⟩,h2,rfl⟩:=ho;obtain⟨ys,zs,A,C,rfl,rfl,h3,h4⟩:=Rows.split h2;obtain⟨x,rfl,h5⟩:=h4.single;have jN:=h3.len;rcases hc with ⟨_,hn,_⟩|⟨b,c',rest,t,he,gG,U,hlen,rfl⟩
 ·simp at hn
 simp only[Value.slice.injEq]at he;obtain⟨rfl,rfl,rfl⟩:=he;refine⟨by simp[jN],[b]++A,⟨ys,[b],A,⟨λy hy=>hx y (by simp[hy]),.inr ⟨b,c,x++rest,t,by simp[jN],by simp[jN]at gG ⊢;omega,by rw[U];simp,by simpa using hlen,rfl⟩⟩,h3,rfl⟩,λm=>?_⟩;simp[List.count_append,List.count_cons]
theorem cn.at {sz:Nat} {h:Heap} {v:Value} {xs ys:List (List Value)} {x:List Value} {B:List Nat} (ho:cn sz h v (xs++x::ys) B) :
  ∃ b c pre post t,v=.slice (some ⟨b,0,none⟩) (xs.length+ys.length+1) c/\h b=some (.cells (pre++x++post).toArray t (0,0))/\pre.length=xs.length*sz/\x.length=sz/\B=[b] /\
   ∀ h' x',h' b=some (.cells (pre++x'++post).toArray t (0,0))->x'.length=sz->cn sz h' v (xs++x'::ys) B:=by
 obtain⟨hx,hc⟩:=ho;rcases hc with ⟨_,hn,_⟩|⟨b,c,rest,t,rfl,gG,U,hlen,rfl⟩
 ·simp at hn
 refine⟨b,c,xs.flatten,ys.flatten++rest,t,by simp[Nat.add_assoc],by rw[U];simp,bQ (sz:=sz) (λy hy=>hx y (by simp[hy])),hx x (by simp),rfl,?_⟩;intro h' x' bz xY;refine⟨?_,.inr ⟨b,c,rest,t,by simp,by simpa using gG,by rw[bz];simp,?_,rfl⟩⟩
 ·intro y hy;simp only[List.mem_append,List.mem_cons]at hy;rcases hy with hy|rfl|hy
  ·exact hx y (by simp[hy])
  ·exact xY
  ·exact hx y (by simp[hy])
 ·have:=hx x (by simp);simp only[List.flatten_append,List.flatten_cons,List.length_append]at hlen ⊢;omega
structure gz (h0 h:Heap) (bm:Nat) (pre post:List Value) (M:bZ) (B:List Nat):Prop where
 le:h0.le h
 cell:∃ mc t,h bm=some (.cells (pre++mc++post).toArray t (0,0))/\gJ h mc M B
 nd:Nd (bm::B)
 fr:∀ b∈bm::B,h0 b=none
def aB (vo vf vs:Value) (M:bZ):List Value:=[vo,vf,vs,.int .i64 M.steps,.int .i64 M.fin,.bool M.out.ref,.int .i64 M.out.n]
theorem gz.top {h0 h:Heap} {bm:Nat} {pre post:List Value} {M:bZ} {B:List Nat} {fs:List bU} {f:bU} (hM:gz h0 h bm pre post M B) (hf:M.ag=fs++[f]) :
  ∃ vo vs bf c tm t q r v1 v2 Bo B1 B2,h bm=some (.cells (pre++aB vo (.slice (some ⟨bf,0,none⟩) (fs.length+1) c) vs M++post).toArray tm (0,0)) /\
   h bf=some (.cells (q++[.int .i64 f.ah,.int .i64 f.pc,v1,v2]++r).toArray t (0,0))/\q.length=fs.length*4/\cq h v1 f.locals B1/\cq h v2 f.stack B2 /\
   Nd (bm::bf::(Bo++B1++B2))/\(∀ b∈bm::bf::(Bo++B1++B2),∃ o,h b=some o)/\(∀ b,b∈bm::B↔b∈bm::bf::(Bo++B1++B2)) /\
   ∀ h' f' zY tB jf gO,h' bm=h bm->h' bf=some (.cells (q++[.int .i64 f'.ah,.int .i64 f'.pc,zY,tB]++r).toArray t (0,0))->cq h' zY f'.locals jf->cq h' tB f'.stack gO->cC h h' Bo ->
    Nd (bm::bf::(Bo++jf++gO))->Ev h h' (bm::B) (bm::bf::(Bo++jf++gO))->∃ B',gz h0 h' bm pre post {M with ag:=fs++[f']} B'/\Ev h h' (bm::B) (bm::B'):=by
 obtain⟨hle,⟨mc,tm,U,vo,vf,vs,Bo,Bf,Bs,rfl,ho,gA,hs,rfl⟩,nd,fr⟩:=hM;rw[hf]at gA;obtain⟨bf,c,x,q,r,t,Bx,Bi,rfl,_,jS,hq,_,⟨v1,v2,B1,B2,rfl,g1,g2,rfl⟩,iK,eF⟩:=gA.at qz;have fI:∀ b∈bm::(Bo++Bf++Bs),∃ o,h b=some o:=by
  intro b bz;rcases List.mem_cons.1 bz with rfl|bz
  ·exact⟨_,U⟩
  ·refine gJ.in (h:=h) (mc:=aB vo _ vs M) (m:=M) ⟨vo,_,vs,Bo,Bf,Bs,rfl,ho,by rw[hf];exact gA,hs,rfl⟩ b bz
 have hp:∀ a,(bm::bf::((Bo++Bx++Bs)++B1++B2)).count a=(bm::(Bo++Bf++Bs)).count a:=by
  intro a;have:=iK a;simp only[List.count_append,List.count_cons]at this ⊢;omega
 refine⟨vo,vs,bf,c,tm,t,q,r,v1,v2,Bo++Bx++Bs,B1,B2,by simpa [aB]using U,jS,hq,g1,g2,nd.perm hp,λb bz=>fI b ((ij hp b).1 bz),λb=>(ij hp b).symm,?_⟩;intro h' f' zY tB jf gO k1 k2 k3 k4 k5 k6 k7;obtain⟨Yo,o1,o2⟩:=eF h' _ f' (jf++gO) k2 rfl ⟨zY,tB,jf,gO,rfl,k3,k4,rfl⟩ k5.l.r;have LF:∀ a,(bm::(Bo++Yo++Bs)).count a=(bm::bf::((Bo++Bx++Bs)++jf++gO)).count a:=by
  intro a;have:=o2 a;simp only[List.count_append,List.count_cons]at this ⊢;omega
 have ev:Ev h h' (bm::(Bo++Bf++Bs)) (bm::(Bo++Yo++Bs)):=⟨k7.ic,λb bz=>k7.new b ((ij LF b).1 bz)⟩
 refine⟨Bo++Yo++Bs,⟨ev.le hle fr,⟨_,tm,by rw[k1,U],vo,_,vs,Bo,Yo,Bs,rfl,ho.aG jD k5.l.l,o1,hs.aG k5.r,rfl⟩,k6.perm LF,ev.fresh hle fr⟩,ev⟩
def jE (k:Int):List PanicEntry:=[{v:=.iface 111 (.agg #[.int .i64 k]),recovered:=false}]
def Yp (bf off bm:Nat) (ms us:List Value):List Value:=.pointer (some ⟨bf,off,none⟩)::(ms++us++[.pointer (some ⟨bm,0,none⟩)])
def Pn (h0:Heap) (bm:Nat) (h:Heap):Prop:=h0.le h/\∃(cs:List Value) (t:TypeId),h bm=some (.cells cs.toArray t (0,0))/\cs.length=7
theorem gz.Jr {h0 h h':Heap} {bm:Nat} {M:bZ} {B:List Nat} (hM:gz h0 h bm [] [] M B) (hl:h.le h'):Pn h0 bm h':=by
 obtain⟨le,⟨mc,t,U,vo,vf,vs,B1,B2,B3,rfl,_⟩,_,_⟩:=hM;exact⟨Heap.le_trans le hl,_,t,hl _ _ U,rfl⟩
theorem gz.pn {h0 h:Heap} {bm:Nat} {M:bZ} {B:List Nat} (hM:gz h0 h bm [] [] M B):Pn h0 bm h:=hM.Jr (Heap.le_refl h)
structure kq (h0 h:Heap) (bs bm bf off:Nat) (u:aU) (m:cB) (fs:List bU) (f:bU) (M:bZ) (B:List Nat):Prop where
 ma:gz h0 h bm [] [] M B
 ag:M.ag=fs++[f]
 top:off=fs.length*4/\∃ c,rd h bm 1=some (.slice (some ⟨bf,0,none⟩) (fs.length+1) c)
 st:∃ ms us t,h bs=some (.cells (Yp bf off bm ms us).toArray t (0,0))/\dL h0 us u/\ee h0 ms m
 out:bs ∉ bm::B
theorem kq.lens {h0 h:Heap} {bs bm bf off:Nat} {u:aU} {m:cB} {fs:List bU} {f:bU} {M:bZ} {B:List Nat} (hS:kq h0 h bs bm bf off u m fs f M B) :
  ∃ t q r v1 v2 B1 B2,h bf=some (.cells (q++[.int .i64 f.ah,.int .i64 f.pc,v1,v2]++r).toArray t (0,0))/\q.length=off/\cq h v1 f.locals B1/\cq h v2 f.stack B2/\Nd (B1++B2)/\(∀ b∈bf::(B1++B2),h0 b=none) /\
   (∀ b,b∈B1++B2->b≠bf/\b≠bm/\b≠bs)/\bf≠bm/\bf≠bs /\
   ∀ h' f' zY tB jf gO,h' bf=some (.cells (q++[.int .i64 f'.ah,.int .i64 f'.pc,zY,tB]++r).toArray t (0,0))->(∀ b,b ∉ bf::(B1++B2)->h b≠none->h' b=h b)->cq h' zY f'.locals jf->cq h' tB f'.stack gO ->
    (∀ b∈jf++gO,b∈B1++B2\/h b=none)->Nd (jf++gO)->∃ B',kq h0 h' bs bm bf off u m fs f' {M with ag:=fs++[f']} B'/\Ev h h' (bm::B) (bm::B'):=by
 obtain⟨hM,hf,⟨MH,c0,jg⟩,⟨ms,us,ts,dZ,hu,hm⟩,eU⟩:=hS;obtain⟨vo,vs,Ik,c,tm,t,q,r,v1,v2,Bo,B1,B2,U,jS,hq,o1,o2,nd,fI,dy,eF⟩:=hM.top hf;have e1:rd h bm 1=some (.slice (some ⟨Ik,0,none⟩) (fs.length+1) c):=bG U (i:=1) (by simp) rfl;rw[jg]at e1;simp only[Option.some.injEq,Value.slice.injEq,Addr.mk.injEq,and_true,true_and]at e1;obtain⟨rfl,rfl⟩:=e1;have iK:∀ a,(bm::bf::(Bo++B1++B2)).count a<=1:=nd;have zZ:∀ b,b∈B1++B2->b≠bf/\b≠bm/\b≠bs/\b ∉ Bo:=by
  intro b bz;have hp:=List.count_pos_iff.2 bz;have hc:=iK b;simp only[List.count_append,List.count_cons]at hp hc;refine⟨?_,?_,?_,?_⟩
  ·rintro rfl;simp at hc;omega
  ·rintro rfl;simp at hc;omega
  ·rintro rfl;exact eU ((dy _).2 (by simp at bz ⊢;grind))
  ·intro hx;have:=List.count_pos_iff.2 hx;omega
 have PY:bf≠bm:=by
  rintro rfl;have hc:=iK bf;simp[List.count_cons]at hc
 have ne3:bf≠bs:=by
  rintro rfl;exact eU ((dy _).2 (by simp))
 have Yq:bm≠bs:=by
  rintro rfl;exact eU (by simp)
 refine⟨t,q,r,v1,v2,B1,B2,jS,by rw[hq,MH],o1,o2,?_,?_,λb bz=>⟨(zZ b bz).1,(zZ b bz).2.1,(zZ b bz).2.2.1⟩,PY,ne3,?_⟩
 ·exact nd.less λa=>by simp only[List.count_append,List.count_cons];omega
 ·intro b bz;exact hM.fr b ((dy b).2 (by simp at bz ⊢;grind))
 intro h' f' zY tB jf gO k1 k2 k3 k4 k5 k6;have iq:h' bm=h bm:=k2 bm (by simp only[List.mem_cons,not_or];exact⟨λhx=>PY hx.symm,λhx=>(zZ _ hx).2.1 rfl⟩) (by rw[U];simp);have mS:∀ b∈Bo,b ∉ bf::(B1++B2):=by
  intro b bz hx;rcases List.mem_cons.1 hx with rfl|hx
  ·have hc:=iK b;have:=List.count_pos_iff.2 bz;simp only[List.count_append,List.count_cons]at hc;simp at hc;omega
  ·exact(zZ b hx).2.2.2 bz
 have tZ:cC h h' Bo:=λb bz o ho=>by rw[k2 b (mS b bz) (by rw[ho];simp)];exact ho
 have hnd:Nd (bm::bf::(Bo++jf++gO)):=by
  have:=Nd.swap (A:=bm::bf::Bo) (X:=B1++B2) (X':=jf++gO) (nd.perm λa=>by simp only[List.count_append,List.count_cons];omega) k6 (λb bz=>?_)
  ·exact this.perm λa=>by simp only[List.count_append,List.count_cons];omega
  ·rcases k5 b bz with hx|hx
   ·exact .inl hx
   ·refine .inr λhy=>?_;obtain⟨o,ho⟩:=fI b (by simp at hy ⊢;grind);rw[hx]at ho;cases ho
 have DX:Ev h h' (bm::B) (bm::bf::(Bo++jf++gO)):=by
  refine⟨λb bz hn=>?_,λb bz=>?_⟩
  ·refine k2 b (λhx=>hn ((dy b).2 (by simp at hx ⊢;grind))) bz
  ·have:b∈jf++gO\/b∈bm::bf::Bo:=by simp at bz ⊢;grind
   rcases this with hx|hx
   ·rcases k5 b hx with hy|hy
    ·exact .inl ((dy b).2 (by simp at hy ⊢;grind))
    ·exact .inr hy
   ·exact .inl ((dy b).2 (by simp at hx ⊢;grind))
 obtain⟨B',Js,VV⟩:=eF h' f' zY tB jf gO iq k1 k3 k4 tZ hnd DX;refine⟨B',⟨Js,rfl,⟨MH,c0,?_⟩,⟨ms,us,ts,?_,hu,hm⟩,?_⟩,VV⟩
 ·rw[<-jg];unfold rd;rw[iq]
 ·rw[k2 bs ?_ (by rw[dZ];simp)];exact dZ;intro hx;rcases List.mem_cons.1 hx with hx|hx
  ·exact ne3 hx.symm
  ·exact(zZ _ hx).2.2.1 rfl
 ·intro hx;rcases VV.new bs hx with hy|hy
  ·exact eU hy
  ·rw[dZ]at hy;cases hy
theorem dY {α β:Type} (g:α->β) (l:List α):((l.map g).length:Int)=l.length:=by simp
theorem kq.cA {h0 h:Heap} {bs bm bf off:Nat} {u:aU} {m:cB} {fs:List bU} {f:bU} {M:bZ} {B:List Nat} (hS:kq h0 h bs bm bf off u m fs f M B) :
  ∃ t q r v1 p2 c2 B2,h bf=some (.cells (q++[.int .i64 f.ah,.int .i64 f.pc,v1,.slice p2 (f.stack.map bR).length c2]++r).toArray t (0,0))/\q.length=off/\cq h (.slice p2 (f.stack.map bR).length c2) f.stack B2/\(∀ b∈B2,h0 b=none) /\
   rd h bs 0=some (.pointer (some ⟨bf,off,none⟩))/\rd h bf (off+3)=some (.slice p2 (f.stack.map bR).length c2) /\
   ∀ h1 tB gO S' Jt,(∀ b,b ∉ B2->h b≠none->h1 b=h b)->cq h1 tB S' gO->(∀ b∈gO,b∈B2\/h b=none) ->
    h1 bf=h bf/\h1 bs=h bs/\h1 bm=h bm/\∃ B',kq h0 (h1.set bf (.cells (q++[.int .i64 f.ah,.int .i64 Jt,v1,tB]++r).toArray t (0,0))) bs bm bf off u m fs {f with pc:=Jt,stack:=S' } {M with ag:=fs++[{f with pc:=Jt,stack:=S' }]} B' /\
     Ev h (h1.set bf (.cells (q++[.int .i64 f.ah,.int .i64 Jt,v1,tB]++r).toArray t (0,0))) (bm::B) (bm::B'):=by
 obtain⟨t,q,r,v1,v2,B1,B2,jS,hq,o1,o2,nd,gA,cD,zZ,PY,eF⟩:=hS.lens;obtain⟨hM,hf,jg,⟨ms,us,ts,dZ,hu,hm⟩,eU⟩:=hS;obtain⟨p2,c2,rfl,gG⟩:=o2.form;obtain⟨mc,tm,iq,_⟩:=hM.cell;refine⟨t,q,r,v1,p2,c2,B2,jS,hq,o2,λb U=>gA b (by simp;grind),ec dZ rfl,bG jS (i:=3) (by rw[hq]) rfl,?_⟩;intro h1 tB gO S' Jt k1 k2 k3;have n1:bf ∉ B2:=λhx=>(cD bf (by simp[hx])).1 rfl;have n2:bs ∉ B2:=λhx=>(cD bs (by simp[hx])).2.2 rfl;have n3:bm ∉ B2:=λhx=>(cD bm (by simp[hx])).2.1 rfl;have hd:∀ b,b∈B1->b ∉ B2:=by
  intro b h1 h2;have:=nd b;have:=List.count_pos_iff.2 h1;have:=List.count_pos_iff.2 h2;simp only[List.count_append]at *;omega
 have nb:∀ b∈gO,b≠bf:=by
  intro b U;rcases k3 b U with hx|hx
  ·rintro rfl;exact n1 hx
  ·rintro rfl;rw[jS]at hx;cases hx
 refine⟨k1 bf n1 (by rw[jS];simp),k1 bs n2 (by rw[dZ];simp),k1 bm n3 (by rw[iq];simp),?_⟩;refine eF _ {f with pc:=Jt,stack:=S' } v1 tB B1 gO ?_ ?_ ?_ ?_ ?_ ?_
 ·simp[Heap.set]
 ·intro b U hn;have gI:b≠bf:=λhx=>U (by simp[hx]);simp only[Heap.set,gI,if_false];exact k1 b (λhx=>U (by simp[hx])) hn
 ·refine o1.aG λb U o ho=>?_;have gI:=(cD b (by simp[U])).1;simp only[Heap.set,gI,if_false];rw[k1 b (hd b U) (by rw[ho];simp)];exact ho
 ·refine k2.aG λb U o ho=>?_;simp only[Heap.set,nb b U,if_false];exact ho
 ·intro b U;rcases List.mem_append.1 U with hx|hx
  ·exact .inl (by simp[hx])
  ·rcases k3 b hx with hy|hy
   ·exact .inl (by simp[hy])
   ·exact .inr hy
 ·refine Nd.swap nd k2.nd λb U=>?_;rcases k3 b U with hx|hx
  ·exact .inl hx
  ·refine .inr λhy=>?_;obtain⟨o,ho⟩:=o1.in b hy;rw[hx]at ho;cases ho
theorem EG {h:Heap} {b:Nat} {pre x post:List Value} {t:TypeId} {fz:Nat × Nat} {i n:Nat} {v:Value} (hn:n=pre.length+i) (hi:i < x.length) :
  h.set b (.cells (ep (pre++x++post) n [v]).toArray t fz)=h.set b (.cells (pre++x.set i v++post).toArray t fz):=by rw[nu hn hi]
theorem oZ (h0 h:Heap) (bs bm bf off:Nat) (u:aU) (m:cB) (fs:List bU) (f:bU) (M:bZ) (B:List Nat) (x:Vl) (hS:kq h0 h bs bm bf off u m fs f M B) :
  cH prog 171 [.pointer (some ⟨bs,0,none⟩),.agg #[.bool x.ref,.int .i64 x.n]] h λo h'=>match o with
   | .ret _=>f.stack.length < 4/\∃ B',kq h0 h' bs bm bf off u m fs {f with stack:=f.stack++[x]} {M with ag:=fs++[{f with stack:=f.stack++[x]}]} B'/\Ev h h' (bm::B) (bm::B')
   | .lE c=>4<=f.stack.length/\c=jE 0/\Pn h0 bm h':=by
 obtain⟨t,q,r,v1,p2,c2,B2,jS,hq,o2,gA,r1,r2,eF⟩:=hS.cA;have hle:=hS.ma.le;have hlen:=dY bR f.stack;refine outs au func171 Uc Ud rfl ?_;conv=>whnf
 refine ld r1 ?_;conv=>whnf
 refine ld r2 ?_;conv=>whnf
 apply ax<;>intro g;all_goals conv=>whnf
 ·exact⟨by omega,rfl,hS.ma.pn⟩
 repeat' ((first|exact trivial|refine ld r1 ?_|refine ld r2 ?_|apply And.intro)<;>conv=>whnf)
 all_goals
  refine cY (h0:=h0) (ys:=[bR x]) o2 gA hle rfl rfl (by simp[bR]) rfl rfl (by simp;omega) (by simp;omega) ?_;intro v' h1 gO g1 g2 g3 g4 g5;have ff:=g2.form;obtain⟨p',c',rfl,oQ⟩:=ff;have zy:cq h1 (.slice p' (f.stack.map bR++[bR x]).length c') (f.stack++[x]) gO:=by unfold cq;rw[List.map_append];exact g2
  obtain⟨e1,e2,e3,B',s1,s2⟩:=eF h1 _ gO (f.stack++[x]) f.pc g4 zy g5;have Oj:rd h1 bs 0=some (.pointer (some ⟨bf,off,none⟩)):=by unfold rd at r1 ⊢;rw[e2];exact r1
  rw[jS]at e1;conv=>whnf
  repeat' ((first|refine ld Oj ?_|refine st e1 (by simp;omega) ?_)<;>conv=>whnf)
  refine⟨by omega,?_⟩;rw[EG (i:=3) (by rw[hq]) (by simp)];exact⟨B',s1,s2⟩
def mb (sz:Nat) (h:Heap) (v:Value) (xs:List (List Value)):Prop:=xs.length<=1000000/\(∀ x∈xs,x.length=sz)/\∃ p c,v=.slice p xs.length c/\xs.length<=c/\(xs=[]\/∃ b off,p=some ⟨b,off,none⟩/\eG h b off (xs.length*sz)=some xs.flatten)
theorem mb.le {sz:Nat} {h h':Heap} {v:Value} {xs:List (List Value)} (hl:h.le h') (hr:mb sz h v xs):mb sz h' v xs:=by
 obtain⟨h1,h2,p,c,rfl,h3,h4⟩:=hr;refine⟨h1,h2,p,c,rfl,h3,h4.imp id ?_⟩;rintro⟨b,off,rfl,h5⟩;exact⟨b,off,rfl,bK hl h5⟩
theorem cn.read {sz:Nat} {h:Heap} {v:Value} {xs:List (List Value)} {B:List Nat} (ho:cn sz h v xs B) (hl:xs.length<=1000000):mb sz h v xs:=by
 obtain⟨hx,⟨rfl,rfl,_⟩|⟨b,c,rest,t,rfl,hc,U,hlen,_⟩⟩:=ho
 ·exact⟨hl,hx,none,0,rfl,by simp,.inl rfl⟩
 ·refine⟨hl,hx,_,c,rfl,hc,.inr ⟨b,0,rfl,?_⟩⟩;have FY:=bQ hx;rw[bP U _ _ (by simp only[List.length_append];omega)];simp[<-FY]
theorem mb.MI {sz:Nat} {h:Heap} {p:Option Addr} {n c:Nat} {xs:List (List Value)} {K:List Value->Prop} (hr:mb sz h (.slice p n c) xs) (hk:K xs.flatten):RK h p (n*sz) K:=by
 obtain⟨_,_,p',c',he,_,h3⟩:=hr;simp only[Value.slice.injEq]at he;obtain⟨rfl,rfl,rfl⟩:=he;rw[tG];unfold D8;rcases h3 with rfl|⟨b,off,rfl,hx⟩
 ·exact .inl ⟨.inr (by simp),hk⟩
 ·exact .inr ⟨b,off,_,rfl,hx,hk⟩
abbrev nT (h:Heap) (v:Value) (l:List Vl):Prop:=mb 2 h v (l.map bR)
abbrev F2 (h:Heap) (v:Value) (l:List Int):Prop:=mb 1 h v (l.map bO)
theorem jh:∀ l:List Vl,dG (l.map bR).flatten=true
 | []=>rfl
 | x::l=>by simp[bR,dG,lP,jh l]
theorem Ju (v:Value) (l:List Int) (h:Heap) (hr:F2 h v l) :
  bI prog 137 [v] h λv h'=>h.le h'/\∃ B,dV h' v l B/\∀ b∈B,h b=none:=by
 have gD:=hr;obtain⟨h1,h2,p,c,rfl,h3,h4⟩:=hr;have hlen:=dY bO l;refine bS au func137 Td Te rfl ?_;conv=>whnf
 refine IX rfl rfl rfl ?_;conv=>whnf
 cases p with
 | none =>
  conv=>whnf
  have hl:l.map bO=[]:=h4.elim id (λ⟨_,_,hx,_⟩=>by cases hx);exact⟨Heap.le_refl h,[],⟨by simp[hl],.inl ⟨rfl,hl,rfl⟩⟩,by simp⟩
 | some a =>
  conv=>whnf
  refine new (λb U=>?_);conv=>whnf
  have hle:=Heap.aM (Heap.le_refl h) U (o:=.cells #[] 3);refine(gD.le hle).MI ?_;conv=>whnf
  refine cY (h0:=h) (xs:=[]) (ys:=l.map bO) (B:=[b]) ⟨by simp,.inr ⟨b,0,[],3,rfl,by simp,by simp[Heap.set,tH],by simp,rfl⟩⟩ (by simpa using U) hle rfl rfl (by simp[bO]) (by rw[dA];exact dw l) rfl (by simp;simp at h1;omega) (by simp;simp at h1;omega) ?_;intro v' h' B' g1 g2 g3 g4 g5;conv=>whnf
  exact⟨g1,B',by simpa using g2,g3⟩
theorem ua (v:Value) (l:List Vl) (h:Heap) (hr:nT h v l) :
  bI prog 138 [v] h λv h'=>h.le h'/\∃ B,cq h' v l B/\∀ b∈B,h b=none:=by
 have gD:=hr;obtain⟨h1,h2,p,c,rfl,h3,h4⟩:=hr;have hlen:=dY bR l;refine bS au func138 Tf Tg rfl ?_;conv=>whnf
 refine IX rfl rfl rfl ?_;conv=>whnf
 cases p with
 | none =>
  conv=>whnf
  have hl:l.map bR=[]:=h4.elim id (λ⟨_,_,hx,_⟩=>by cases hx);exact⟨Heap.le_refl h,[],⟨by simp[hl],.inl ⟨rfl,hl,rfl⟩⟩,by simp⟩
 | some a =>
  conv=>whnf
  refine new (λb U=>?_);conv=>whnf
  have hle:=Heap.aM (Heap.le_refl h) U (o:=.cells #[] 33);refine(gD.le hle).MI ?_;conv=>whnf
  refine cY (h0:=h) (xs:=[]) (ys:=l.map bR) (B:=[b]) ⟨by simp,.inr ⟨b,0,[],33,rfl,by simp,by simp[Heap.set,tH],by simp,rfl⟩⟩ (by simpa using U) hle rfl rfl (by simp[bR]) (jh l) rfl (by simp;simp at h1;omega) (by simp;simp at h1;omega) ?_;intro v' h' B' g1 g2 g3 g4 g5;conv=>whnf
  exact⟨g1,B',by simpa using g2,g3⟩
def Yr (h:Heap) (x:List Value) (o:Ob):Prop:=∃ v,x=[.int .i64 o.cls,v]/\nT h v o.bE
def MJ (h:Heap) (x:List Value) (f:bU):Prop:=∃ v1 v2,x=[.int .i64 f.ah,.int .i64 f.pc,v1,v2]/\nT h v1 f.locals/\nT h v2 f.stack
def xZ (h:Heap) (mc:List Value) (M:bZ):Prop:=∃ vo vf vs,mc=aB vo vf vs M/\M.objs.length<=1000000/\M.ag.length<=1000000/\Row 2 Yr h vo M.objs/\Row 4 MJ h vf M.ag/\F2 h vs M.said
theorem Yr.le {h h':Heap} (hl:h.le h') {x:List Value} {o:Ob} (hr:Yr h x o):Yr h' x o:=by
 obtain⟨v,h1,h2⟩:=hr;exact⟨v,h1,h2.le hl⟩
theorem MJ.le {h h':Heap} (hl:h.le h') {x:List Value} {f:bU} (hr:MJ h x f):MJ h' x f:=by
 obtain⟨v1,v2,h1,h2,h3⟩:=hr;exact⟨v1,v2,h1,h2.le hl,h3.le hl⟩
theorem xZ.le {h h':Heap} (hl:h.le h') {mc:List Value} {M:bZ} (hr:xZ h mc M):xZ h' mc M:=by
 obtain⟨vo,vf,vs,h1,h2,h3,h4,h5,h6⟩:=hr;exact⟨vo,vf,vs,h1,h2,h3,h4.le hl (λ_ _ hx=>hx.le hl),h5.le hl (λ_ _ hx=>hx.le hl),h6.le hl⟩
def Small (M:bZ):Prop:=M.objs.length<=1000000/\M.ag.length<=1000000/\M.said.length<=1000000/\(∀ o∈M.objs,o.bE.length<=1000000)/\∀ f∈M.ag,f.locals.length<=1000000/\f.stack.length<=1000000
theorem Rows.mem {α:Type} {R:Heap->List Value->α->List Nat->Prop} {h:Heap} {xs:List (List Value)} {l:List α} {B:List Nat} (hr:Rows R h xs l B):∀ i (hi:i < l.length) (hj:i < xs.length),∃ C,R h xs[i] l[i] C:=by
 induction hr with
 | nil=>intro i hi;simp at hi
 | cons h1 _ ih =>
  intro i hi hj;cases i with
  | zero=>exact⟨_,h1⟩
  | succ i=>simpa using ih i (by simpa using hi) (by simpa using hj)
theorem eE.row {α:Type} {R:Heap->List Value->α->List Nat->Prop} {Q:Heap->List Value->α->Prop} {sz:Nat} {h:Heap} {v:Value} {l:List α} {B:List Nat} (ho:eE R sz h v l B) (hl:l.length<=1000000) (hq:∀ x a C,a∈l->R h x a C->Q h x a):Row sz Q h v l:=by
 obtain⟨xs,B0,B1,⟨hx,hc⟩,h2,_⟩:=ho;have hlen:=h2.len;rcases hc with ⟨rfl,rfl,_⟩|⟨b,c,rest,t,rfl,gG,U,sP,_⟩
 ·have:l=[]:=List.eq_nil_of_length_eq_zero (by simpa using hlen.symm);subst this;exact⟨by simp,none,0,rfl,by simp,.inl rfl⟩
 ·refine⟨by omega,_,c,by rw[hlen],by omega,.inr ⟨b,0,rfl,λi a hi=>?_⟩⟩;obtain⟨cG,Ok⟩:=List.getElem?_eq_some_iff.1 hi;have Ol:i < xs.length:=by omega
  obtain⟨C,hR⟩:=h2.mem i cG Ol;rw[Ok]at hR;refine⟨xs[i],?_,hq _ _ C (Ok ▸ List.getElem_mem cG) hR⟩;have PZ:xs=xs.take i++xs[i]::xs.drop (i+1):=by simp
  have cO:(xs.take i).flatten.length=i*sz:=by
   rw[bQ (sz:=sz) (λy hy=>hx y (List.mem_of_mem_take hy)),List.length_take,Nat.min_eq_left (by omega)]
  have FY:(xs[i]).length=sz:=hx _ (List.getElem_mem Ol);have qh:xs.flatten++rest=(xs.take i).flatten++(xs[i]++((xs.drop (i+1)).flatten++rest)):=by
   have e:=congrArg List.flatten PZ;simp only[List.flatten_append,List.flatten_cons]at e;rw[e];simp only[List.append_assoc]
  rw[bP U _ _ (by rw[qh];simp only[List.length_append];omega),qh];simp only[Nat.zero_add];rw[List.drop_append_of_le_length (by omega),<-cO,List.drop_length,List.nil_append,<-FY,List.take_left]
theorem gJ.read {h:Heap} {mc:List Value} {M:bZ} {B:List Nat} (ho:gJ h mc M B) (hs:Small M):xZ h mc M:=by
 obtain⟨vo,vf,vs,B1,B2,B3,rfl,h2,h3,h4,rfl⟩:=ho;obtain⟨s1,s2,s3,s4,s5⟩:=hs;refine⟨vo,vf,vs,rfl,s1,s2,h2.row s1 ?_,h3.row s2 ?_,h4.read (by simpa using s3)⟩
 ·rintro x a C ha ⟨v,h5,h6⟩;exact⟨v,h5,h6.read (by simpa using s4 a ha)⟩
 ·rintro x a C ha ⟨v1,v2,C1,C2,h5,h6,h7,_⟩;exact⟨v1,v2,h5,h6.read (by simpa using (s5 a ha).1),h7.read (by simpa using (s5 a ha).2)⟩
theorem eE.form {α:Type} {R:Heap->List Value->α->List Nat->Prop} {sz:Nat} {h:Heap} {v:Value} {l:List α} {B:List Nat} (ho:eE R sz h v l B):∃ p c,v=.slice p l.length c/\l.length<=c:=by
 obtain⟨xs,B0,B1,h1,h2,_⟩:=ho;obtain⟨p,c,rfl,hc⟩:=h1.form;have:=h2.len;exact⟨p,c,by rw[this],by omega⟩
theorem nU {α:Type} {R:Heap->List Value->α->List Nat->Prop} (hR:Kept R) (hI:MG R) {bytes sz:Nat} {zero:List Value} {el:TypeId} {h0 h:Heap} {p:Option Addr} {n cap:Nat} {l:List α} {a:α} {B Bi:List Nat} {m:Nat} {vs:List Value} {K:Value->Heap->Prop}
  (ho:eE R sz h (.slice p n cap) l B) (hy:R h vs a Bi) (hnd:Nd (B++Bi)) (hB:∀ b∈B++Bi,h0 b=none) (hle:h0.le h) (hm:m=1) (LG:vs.length=sz) (hc:dG vs=true) (hz:zero.length=sz)
  (gI:(l.length+1)*bytes<=2 ^ 44) (eX:l.length+1<=2 ^ 44)
  (hk:∀ v' h' B',h0.le h'->eE R sz h' v' (l++[a]) B'->Nd B'->(∀ b∈B',h0 b=none)->Ev h h' (B++Bi) B'->K v' h'):App bytes sz zero el h p n cap m vs K:=by
 obtain⟨xs,B0,B1,h1,h2,rfl⟩:=ho;have hlen:=h2.len;have aai:=h2.in hI;have x6:=hI _ _ _ _ hy;refine cY (h0:=h0) (ys:=[vs]) h1 (λb U=>hB b (by simp[U])) hle (by simp) hm (by simpa using LG) hc hz (by simpa [hlen]using gI) (by simpa [hlen]using eX) ?_;intro v' h' B' g1 g2 g3 g4 g5;have iK:=hnd;have dis:∀ b,b∈B1++Bi->b ∉ B0:=by
  intro b U uY;have:=iK b;have:=List.count_pos_iff.2 U;have:=List.count_pos_iff.2 uY;simp only[List.count_append]at *;omega
 have fI:∀ b,b∈B1++Bi->∃ o,h b=some o:=λb U=>(List.mem_append.1 U).elim (aai b) (x6 b);have tZ:cC h h' (B1++Bi):=λb U o ho=>by rw[g4 b (dis b U) (by rw[ho];simp)];exact ho
 refine hk v' h' (B'++(B1++Bi)) g1 ⟨xs++[vs],B',B1++Bi,by simpa using g2,(h2.aG hR tZ.l).app (Rows.one (hR _ _ _ _ _ tZ.r hy)),rfl⟩ ?_ ?_ ?_
 ·have:=Nd.swap (A:=B1++Bi) (X:=B0) (X':=B') (hnd.perm λa=>by simp only[List.count_append];omega) g2.nd (λb U=>?_)
  ·exact this.perm λa=>by simp only[List.count_append];omega
  ·rcases g5 b U with hx|hx
   ·exact .inl hx
   ·refine .inr λhy=>?_;obtain⟨o,ho⟩:=fI b hy;rw[hx]at ho;cases ho
 ·intro b U;rcases List.mem_append.1 U with U|U
  ·exact g3 b U
  ·exact hB b (by simp at U ⊢;grind)
 ·refine⟨λb U hs=>g4 b (λhx=>hs (by simp[hx])) U,λb U=>?_⟩;rcases List.mem_append.1 U with U|U
  ·exact(g5 b U).imp (λhx=>by simp[hx]) id
  ·exact .inl (by simp at U ⊢;grind)
theorem AT (f:bU) (v1 v2:Value) (h:Heap) (h1:nT h v1 f.locals) (h2:nT h v2 f.stack) :
  bI prog 139 [.agg #[.int .i64 f.ah,.int .i64 f.pc,v1,v2]] h λv h'=>h.le h'/\∃ x B,v=.agg ⟨x⟩/\x.length=4/\dG x=true/\oY h' x f B/\Nd B/\∀ b∈B,h b=none:=by
 have gH:=h1;have G0:=h2;obtain⟨_,_,p1,c1,rfl,_⟩:=h1;obtain⟨_,_,p2,c2,rfl,_⟩:=h2;refine bS au func139 Th Ti rfl ?_;conv=>whnf
 refine cE (ua _ _ h gH) ?_;rintro v h1 ⟨l1,B1,o1,n1⟩;refine⟨l1,?_⟩;have ff:=o1.form;obtain⟨RR,Oh,rfl,_⟩:=ff;conv=>whnf
 refine cE (ua _ _ h1 (G0.le l1)) ?_;rintro v h2 ⟨l2,B2,o2,n2⟩;refine⟨l2,?_⟩;have ff:=o2.form;obtain⟨RS,Oi,rfl,_⟩:=ff;conv=>whnf
 refine⟨Heap.le_trans l1 l2,_,B1++B2,rfl,rfl,rfl,⟨_,_,B1,B2,rfl,o1.aG (cC.of_le l2 _),o2,rfl⟩,?_,?_⟩
 ·intro a;have e1:=o1.nd a;have e2:=o2.nd a;simp only[List.count_append];by_cases hm:a∈B2
  ·have:B1.count a=0:=by
    refine List.count_eq_zero.2 λhx=>?_;obtain⟨o,ho⟩:=o1.in a hx;rw[n2 a hm]at ho;cases ho
   omega
  ·have:=List.count_eq_zero.2 hm;omega
 ·intro b U;rcases List.mem_append.1 U with U|U
  ·exact n1 b U
  ·cases hh:h b with
   | none=>rfl
   | some o=>have:=n2 b U;rw[l1 b o hh]at this;cases this
end Go.Proofs
