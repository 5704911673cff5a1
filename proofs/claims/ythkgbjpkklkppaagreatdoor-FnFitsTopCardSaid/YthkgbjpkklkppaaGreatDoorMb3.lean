/- Lemmas. -/
import Derived.Test.YthkgbjpkklkppaaGreatDoorMb2
set_option linter.unusedSimpArgs false
set_option linter.unusedVariables false
namespace Go.Proofs
open Go.Vc Go.Proofs.Tryz
set_option maxRecDepth 100000
set_option maxHeartbeats 4000000
def gz (c s:Int):List bT->Int->Int
 | [],_=>-1
 | m::r,i=>if m.cls=c/\m.eu=s then i else gz c s r (i+1)
def kK (u:aI) (s:Int):Nat->Int->Int
 | 0,_=>-1
 | k+1,c=>if 0<=c then (if 0<=gz c s u.methods 0 then gz c s u.methods 0 else kK u s k (bB u.ak c))else -1
def find (u:aI) (c s:Int):Int:=kK u s (c.toNat+1) c
theorem kL {u:aI} {s:Int} (k:Nat) {c:Int} (h:c < 0):kK u s k c = -1:=by
 cases k with
 | zero=>rfl
 | succ k=>rw[kK,if_neg O]
theorem kM {u:aI} {c s:Int} (h:c < 0):find u c s = -1:=kL _ h
theorem qQ {u:aI} (ok:bX u.ak) (s:Int):∀(k:Nat) (c:Int),c < u.ak.length->c.toNat < k->kK u s k c=find u c s
 | 0,c,_,h=>by omega
 | k+1,c,hl,h=>by
  by_cases a:0<=c
  ·have d:=ok.bJ a hl;unfold find;rw[kK,kK];simp only[a,if_true];split
   ·rfl
   by_cases b:0<=bB u.ak c
   ·rw[qQ ok s k _ O O];rw[<-qQ ok s c.toNat _ O O]
   rw[kL _ O,kL _ O]
  rw[kL _ O,kM O]
theorem pK {u:aI} {c s:Int} (h0:0<=c) (h:0<=gz c s u.methods 0):find u c s=gz c s u.methods 0:=by
 unfold find;rw[kK];simp[h0,h]
theorem sD {u:aI} (ok:bX u.ak) {c s:Int} (h0:0<=c) (a:c < u.ak.length) (h:gz c s u.methods 0 < 0):find u c s=find u (bB u.ak c) s:=by
 have d:=ok.bJ h0 a;conv=>lhs;unfold find
 rw[kK];simp only[h0,if_true,show ¬0<=gz c s u.methods 0 by omega,if_false];by_cases b:0<=bB u.ak c
 ·exact qQ ok s _ _ O O
 rw[kL _ O,kM O]
theorem qR {c s:Int}:∀(l:List bT) (i:Nat) (k:Int),(∀ j (b:j < l.length),j < i->¬(l[j].cls=c/\l[j].eu=s))->gz c s l k=gz c s (l.drop i) (k+i)
 | l,0,k,_=>by simp
 | [],i+1,k,_=>by simp[gz]
 | m::r,i+1,k,h=>by
  have a:=h 0 Z O;simp only[List.getElem_cons_zero]at a;rw[gz,if_neg a];rw[qR r i (k+1) (λj b d=>by have:=h (j+1) (by simpa using b) O;simpa using this)];simp only[List.drop_succ_cons];congr 1
  omega
theorem Br {c s:Int} {l:List bT} {i:Nat} (a:i < l.length) (b:∀ j (d:j < l.length),j < i->¬(l[j].cls=c/\l[j].eu=s)) (h:l[i].cls=c/\l[i].eu=s):gz c s l 0=i:=by
 rw[qR l i 0 b,List.drop_eq_getElem_cons a,gz,if_pos h];omega
theorem vk {c s:Int} {l:List bT} (b:∀ j (a:j < l.length),¬(l[j].cls=c/\l[j].eu=s)):gz c s l 0 = -1:=by
 rw[qR l l.length 0 (λj a _=>b j a)];simp[gz]
theorem Ab (C:List Value) (u:aI) (c s:Int) (h:Heap) (R:dn h C u) (ok:bX u.ak) (h0 : -1<=c) (L:c < u.ak.length) :
  Pure prog 212 [.agg ⟨C⟩,.int .i64 c,.int .i64 s] h (.int .i64 (find u c s)):=by
 obtain⟨B,v,q,e,rfl,J,M,jq,hl2⟩:=R.form;refine gF ax func212 Q8 U rfl ?_;conv=>whnf
 refine eF [2,3,7] [3] (λx:Int=>-1<=x/\x < u.ak.length/\find u x s=find u c s) (λx=>(x+1).toNat)
  (λx=>([.v (.int .i64 s),.l 3 0,.v (.int .i64 x)],[some [.slice B u.ak.length v,.slice q u.methods.length e]],h)) c ⟨h0,L,rfl⟩ rfl ?_
 rintro x ⟨x0,D,t⟩;conv=>whnf
 apply aC<;>intro d;all_goals conv=>whnf
 ·refine eF [2,3,7,20,21,22] [3] (λi:Nat=>i<=u.methods.length/\∀ j (b:j < u.methods.length),j < i->¬(u.methods[j].cls=x/\u.methods[j].eu=s)) (λi=>u.methods.length-i)
   (λi=>([.v (.int .i64 s),.l 3 0,.v (.int .i64 x),.v (.slice q u.methods.length e),.v (.int .i64 u.methods.length),.v (.int .i64 i)],[some [.slice B u.ak.length v,.slice q u.methods.length e]],h)) 0 ⟨O,λ_ _ a=>O⟩ rfl ?_
  rintro i ⟨hi,p⟩;conv=>whnf
  apply aC<;>intro H;all_goals conv=>whnf
  ·have y:i < u.methods.length:=by omega
   have f:=M.get y;obtain⟨E,S,vs,P,F,g⟩:=f;obtain⟨p1,T,p2,V,p3,W,p4,X,G,_⟩:=g.form;subst G;have w:¬(u.methods[i].cls=x/\u.methods[i].eu=s)->∀ j (b:j < u.methods.length),j < i+1->¬(u.methods[j].cls=x/\u.methods[j].eu=s):=by
    intro a j b K;rcases Nat.lt_succ_iff_lt_or_eq.1 K with I|rfl
    ·exact p j b I
    exact a
   refine ay ?_;conv=>whnf
   refine aL P ?_;conv=>whnf
   refine dZ F ?_;conv=>whnf
   apply aC<;>intro m;all_goals conv=>whnf
   ·apply aC<;>intro o;all_goals conv=>whnf
    ·have z:=Br y p ⟨m,o⟩;exact⟨by rw[<-t,pK d O,z],rfl⟩
    refine av ?_;conv=>whnf
    refine cL (i+1) ⟨O,w (λa=>o a.2)⟩ O rfl
   refine av ?_;conv=>whnf
   refine cL (i+1) ⟨O,w (λa=>m a.1)⟩ O rfl
  have z:gz x s u.methods 0 = -1:=vk (λj b=>p j b O);have A:x.toNat < u.ak.length:=by omega
  have f:=J.at A;obtain⟨E,S,q',k',Y,N,_,g,_,_,_,_⟩:=f;have hs:=ok.bJ d D;have Q:bB u.ak x=u.ak[x.toNat].bJ:=by simp[bB,A]
  refine ay ?_;conv=>whnf
  refine aL N ?_;conv=>whnf
  refine ld g ?_;conv=>whnf
  refine cL (u.ak[x.toNat].bJ) ⟨O,O,?_⟩ O rfl;rw[<-t,sD ok d D O,Q]
 exact⟨by rw[<-t,kM O],rfl⟩
theorem pL (E:List Value) (u:aI) (c s:Int) (h:Heap) (S:dn h E u) (ok:bX u.ak) (h0 : -1<=c) (N:c < u.ak.length) :
  Pure prog 161 [.agg ⟨E⟩,.int .i64 c,.int .i64 s] h (.int .i64 (find u c s)):=by
 obtain⟨C,q,D,t,rfl,L,P,jq,hl2⟩:=S.form;refine gF ax func161 Qw U rfl ?_;conv=>whnf
 refine eF [1,2,3] [3] (λx:Int=>-1<=x/\x < u.ak.length/\find u x s=find u c s) (λx=>(x+1).toNat)
  (λx=>([.v (.int .i64 x),.v (.int .i64 s),.l 3 0],[some [.slice C u.ak.length q,.slice D u.methods.length t]],h)) c ⟨h0,N,rfl⟩ rfl ?_
 rintro x ⟨x0,F,p⟩;conv=>whnf
 apply aC<;>intro I;all_goals conv=>whnf
 ·refine eF [1,2,3,7] [3] (λi:Nat=>i<=u.methods.length/\∀ j (d:j < u.methods.length),j < i->¬(u.methods[j].cls=x/\u.methods[j].eu=s)) (λi=>u.methods.length-i)
   (λi=>([.v (.int .i64 x),.v (.int .i64 s),.l 3 0,.v (.int .i64 i)],[some [.slice C u.ak.length q,.slice D u.methods.length t]],h)) 0 ⟨O,λ_ _ b=>O⟩ rfl ?_
  rintro i ⟨hi,o⟩;conv=>whnf
  apply aC<;>intro J;all_goals conv=>whnf
  ·have y:i < u.methods.length:=by omega
   have e:=P.get y;obtain⟨G,T,vs,A,v,f⟩:=e;obtain⟨p1,X,p2,Y,p3,c3,p4,c4,H,_⟩:=f.form;subst H;have w:¬(u.methods[i].cls=x/\u.methods[i].eu=s)->∀ j (d:j < u.methods.length),j < i+1->¬(u.methods[j].cls=x/\u.methods[j].eu=s):=by
    intro b j d M;rcases Nat.lt_succ_iff_lt_or_eq.1 M with K|rfl
    ·exact o j d K
    exact b
   have V:=aJ v (i:=0) rfl;have W:=aJ v (i:=1) rfl;refine ay ?_;conv=>whnf
   refine aL A ?_;conv=>whnf
   refine ld V ?_;conv=>whnf
   apply aC<;>intro g;all_goals conv=>whnf
   ·refine ay ?_;conv=>whnf
    refine aL A ?_;conv=>whnf
    refine ld W ?_;conv=>whnf
    apply aC<;>intro m;all_goals conv=>whnf
    ·have z:=Br y o ⟨g,m⟩;exact⟨by rw[<-p,pK O O,z],rfl⟩
    refine av ?_;conv=>whnf
    refine cL (i+1) ⟨O,w (λb=>m b.2)⟩ O rfl
   refine av ?_;conv=>whnf
   refine cL (i+1) ⟨O,w (λb=>g b.1)⟩ O rfl
  have z:gz x s u.methods 0 = -1:=vk (λj d=>o j d O);have B:x.toNat < u.ak.length:=by omega
  have e:=L.at B;obtain⟨G,T,q',k',d',Q,_,f,_,_,_,_⟩:=e;have hs:=ok.bJ (a:=x) O F;have R:bB u.ak x=u.ak[x.toNat].bJ:=by simp[bB,B]
  refine ay ?_;conv=>whnf
  refine aL Q ?_;conv=>whnf
  refine ld f ?_;conv=>whnf
  refine cL (u.ak[x.toNat].bJ) ⟨O,O,?_⟩ O rfl;rw[<-p,sD ok (c:=x) O F O,R]
 exact⟨by rw[<-p,kM O],rfl⟩
def cH (u:aI) (x:dc):Int:=if x.kind=20 then x.a else if x.kind=21 then find u x.a x.b else -1
theorem oI (e:List Value) (u:aI) (x:dc) (h:Heap) (c:dn h e u) (ok:bX u.ak) (d:x.kind=21->-1<=x.a/\x.a < u.ak.length) :
  Pure prog 155 [.agg ⟨e⟩,.agg #[.int .i64 x.kind,.int .i64 x.a,.int .i64 x.b]] h (.int .i64 (cH u x)):=by
 have f:=c;obtain⟨q,g,s,i,rfl,j,p,m,o⟩:=c.form;refine gF ax func155 Qr U rfl ?_;conv=>whnf
 apply aC<;>intro b;all_goals conv=>whnf
 ·exact⟨by simp[cH,b],rfl⟩
 apply aC<;>intro a;all_goals conv=>whnf
 ·refine au (Ab _ u _ _ h f ok (d a).1 (d a).2) ?_;conv=>whnf
  exact⟨by simp[cH,a],rfl⟩
 exact⟨by simp[cH,b,a],rfl⟩
theorem Ac (a:Int) (h:Heap):Pure prog 152 [.int .i64 a] h (.int .i64 (if a=0 then 1 else 8)):=by
 refine gF ax func152 Qo U rfl ?_;conv=>whnf
 repeat' ((first|apply aC<;>intro _|apply aX<;>intro _|apply fh<;>intro _|apply dG<;>intro _|refine ay ?_|refine av ?_|refine ptr ?_)<;>conv=>whnf)
 all_goals exact⟨by simp[*],rfl⟩
theorem yx (c:je) (n:Int) (h:Heap):Pure prog 178 [.agg #[.int .i64 c.lo,.int .i64 c.hi,.int .i64 c.to,.int .i64 c.cls],.int .i64 n] h (.bool (decide (c.lo<=n/\n < c.hi))):=by
 refine gF ax func178 QH U rfl ?_;conv=>whnf
 repeat' ((first|apply aC<;>intro _|apply aX<;>intro _|apply fh<;>intro _|apply dG<;>intro _|refine ay ?_|refine av ?_|refine ptr ?_)<;>conv=>whnf)
 all_goals exact⟨by simp;omega,rfl⟩
theorem tI (a n b:Int) (h:Heap):Pure prog 46 [.int .i64 a,.int .i64 n,.int .i64 b] h (.bool (decide (a<=n/\n<=b))):=by
 refine gF ax func46 WD U rfl ?_;conv=>whnf
 repeat' ((first|apply aC<;>intro _|apply aX<;>intro _|apply fh<;>intro _|apply dG<;>intro _|refine ay ?_|refine av ?_|refine ptr ?_)<;>conv=>whnf)
 all_goals exact⟨by simp;omega,rfl⟩
def typeOf (c:Int):Int:=if c = -1 then 3 else if c = -2 then 4 else 8+c
theorem Cr (c:Int) (h:Heap) (a : -2<=c/\c<=1000):Pure prog 159 [.int .i64 c] h (.int .i64 (typeOf c)):=by
 refine gF ax func159 Qv U rfl ?_;conv=>whnf
 repeat' ((first|apply aC<;>intro _|apply aX<;>intro _|apply fh<;>intro _|apply dG<;>intro _|refine ay ?_|refine av ?_|refine ptr ?_)<;>conv=>whnf)
 all_goals exact⟨by simp[typeOf, *],rfl⟩
def dQ (cs:List dB) (a b:Int):Bool :=
 if a=b\/b=0 then true else if a=2 then decide (2<=b)else if a < 2\/b < 8 then false else if a < 8 then decide (b=8)else up cs (a-8) (b-8)
theorem pM (a:Int) (h:Heap):Pure prog 85 [.int .i64 a] h (.bool (decide (2<=a))):=by
 refine gF ax func85 WZ U rfl ?_;conv=>whnf
 exact⟨rfl,rfl⟩
theorem qS (p:Option Addr) (n c:Nat) (cs:List dB) (a b:Int) (h:Heap) (i:eP h (.slice p n c) cs) (ok:bX cs) (o:a < 8+cs.length) (q:b < 8+cs.length) :
  Pure prog 37 [.slice p n c,.int .i64 a,.int .i64 b] h (.bool (dQ cs a b)):=by
 have t:=i.n;have s:=ok.2.1;refine gF ax func37 Wx U rfl ?_;conv=>whnf
 apply aC<;>intro f;all_goals conv=>whnf
 ·exact⟨by simp[dQ,f],rfl⟩
 apply aC<;>intro g;all_goals conv=>whnf
 ·exact⟨by simp[dQ,g],rfl⟩
 apply aC<;>intro d;all_goals conv=>whnf
 ·refine au (pM _ _) ?_;conv=>whnf
  exact⟨by unfold dQ;rw[if_neg O,if_pos d],rfl⟩
 refine au (pM _ _) ?_;conv=>whnf
 apply aX<;>intro j;all_goals conv=>whnf
 ·exact⟨by unfold dQ;rw[if_neg O,if_neg d,if_pos O],rfl⟩
 apply aC<;>intro m;all_goals conv=>whnf
 ·exact⟨by unfold dQ;rw[if_neg O,if_neg d,if_pos O],rfl⟩
 apply aC<;>intro e;all_goals conv=>whnf
 ·exact⟨by unfold dQ;rw[if_neg O,if_neg d,if_neg O,if_pos e],rfl⟩
 refine av ?_;conv=>whnf
 refine av ?_;conv=>whnf
 refine au (oH _ _ _ _ _ _ _ i ok O O O) ?_;conv=>whnf
 exact⟨by unfold dQ;rw[if_neg O,if_neg d,if_neg O,if_neg e],rfl⟩
theorem wD (c d:Int) (w:World):(Go.binOp .eql 164 (.iface 234 (.agg #[.int .i64 c])) (.iface 234 (.agg #[.int .i64 d]))).run prog w=.ok (.bool (c==d)) w :=
 by
 refine DR c d (λw=>rfl) (λw=>rfl) rfl rfl ?_ ?_ rfl ?_ w
 ·kernel_rfl
 ·decide
 intro x w;rfl
theorem wE (c d:Bool) (w:World):(Go.binOp .eql 164 (.iface 232 (.agg #[.bool c])) (.iface 232 (.agg #[.bool d]))).run prog w=.ok (.bool (c==d)) w:=by
 refine Cj c d (λw=>rfl) (λw=>rfl) rfl rfl ?_ ?_ rfl ?_ w
 ·kernel_rfl
 ·decide
 intro x w;rfl
theorem D9 (p:Option Addr) (n c:Nat) (cs:List dB) (a b:Int) (h:Heap) (f:eP h (.slice p n c) cs) (ok:bX cs)
  (d:a=0\/a=1\/a=2\/a=3\/a=4\/(8<=a/\a < 8+cs.length)) (e:b=0\/b=1\/b=2\/b=3\/b=4\/(8<=b/\b < 8+cs.length)) :
  Pure prog 158 [.slice p n c,ee cs.length a,ee cs.length b] h (.bool (dQ cs a b)):=by
 have x:=f.n;have v:=ok.2.1;have g:8<=a/\a < 8+cs.length->ee cs.length a=.iface 234 (.agg #[.int .i64 (a-8)]):=by intro j;simp only[ee];(repeat' split)<;>first|rfl|(exfalso;omega)
 have i:8<=b/\b < 8+cs.length->ee cs.length b=.iface 234 (.agg #[.int .i64 (b-8)]):=by intro j;simp only[ee];(repeat' split)<;>first|rfl|(exfalso;omega)
 have o:∀ m:Nat,ee m 0=.iface 228 (.agg #[]):=λm=>by simp[ee]
 have q:∀ m:Nat,ee m 1=.iface 229 (.agg #[]):=λm=>by simp[ee]
 have s:∀ m:Nat,ee m 2=.iface 230 (.agg #[]):=λm=>by simp[ee]
 have t:∀ m:Nat,ee m 3=.iface 232 (.agg #[.bool false]):=λm=>by simp[ee]
 have u:∀ m:Nat,ee m 4=.iface 232 (.agg #[.bool true]):=λm=>by simp[ee]
 rcases d with rfl|rfl|rfl|rfl|rfl|d<;>rcases e with rfl|rfl|rfl|rfl|rfl|e
 all_goals (try simp only[o,q,s,t,u])
 all_goals (try rw[g (by assumption)])
 all_goals (try rw[i (by assumption)])
 all_goals
  refine gF ax func158 Qu U rfl ?_;conv=>whnf
  repeat' ((first
   | apply aC<;>intro _
   | apply fh<;>intro _
   | refine de (r:=.bool true) rfl rfl (λw=>rfl) (λw=>rfl) ?_
   | refine de (r:=.bool false) rfl rfl (λw=>rfl) (λw=>rfl) ?_
   | refine de rfl rfl (λw=>rfl) (wD _ _) ?_
   | refine de rfl rfl (λw=>rfl) (wE _ _) ?_
   | refine eJ rfl (λw=>rfl) ?_
   | refine au (qN _ _ _ _ _ _ _ f ok O O) ?_)<;>conv=>whnf)
  all_goals first
   | exact⟨rfl,rfl⟩
   | (refine⟨?_,rfl⟩;congr 1;unfold dQ;(repeat' split)<;>first|rfl|(exfalso;omega)|(rw[Bool.eq_iff_iff];simp;omega))
def eA (n:Nat) (a:Int):Prop:=a=0\/a=1\/a=2\/a=3\/a=4\/(8<=a/\a < 8+n)
theorem iz (p:Option Addr) (n c:Nat) (cs:List dB) (a b:Int) (h:Heap) (m:eP h (.slice p n c) cs) (ok:bX cs) (d:eA cs.length a) (e:eA cs.length b) :
  Pure prog 75 [.slice p n c,.int .i64 a,.int .i64 b] h (.bool (dQ cs a b)):=by
 have s:=m.n;subst s;have y:=ok.2.1;have j:cy a/\cy b:=by
  unfold eA at d e;refine⟨⟨?_,?_⟩,⟨?_,?_⟩⟩<;>omega
 have u:∃ t v,ee cs.length a=.iface t v:=by
  rcases d with rfl|rfl|rfl|rfl|rfl|d;all_goals first|exact⟨_,_,rfl⟩|exact⟨234,.agg #[.int .i64 (a-8)],by simp only[ee];(repeat' split)<;>first|rfl|(exfalso;omega)⟩
 have x:∃ t v,ee cs.length b=.iface t v:=by
  rcases e with rfl|rfl|rfl|rfl|rfl|e;all_goals first|exact⟨_,_,rfl⟩|exact⟨234,.agg #[.int .i64 (b-8)],by simp only[ee];(repeat' split)<;>first|rfl|(exfalso;omega)⟩
 obtain⟨z,B,o⟩:=u;obtain⟨A,C,q⟩:=x;have g:=pG cs.length a h O j.1;have i:=pG cs.length b h O j.2;have f:=D9 p cs.length c cs a b h m ok d e;rw[o]at g f;rw[q]at i f;refine gF ax func75 WV U rfl ?_;conv=>whnf
 refine au g ?_;conv=>whnf
 refine au i ?_;conv=>whnf
 refine de (r:=.bool true) rfl rfl (λw=>rfl) (λw=>rfl) ?_;conv=>whnf
 refine de (r:=.bool true) rfl rfl (λw=>rfl) (λw=>rfl) ?_;conv=>whnf
 refine au f ?_;conv=>whnf
 exact⟨rfl,rfl⟩
def dO (x:Vl):List Value:=[.bool x.ref,.int .i64 x.n]
abbrev dx (h:Heap) (v:Value) (l:List Vl) (B:List Nat):Prop:=bY 2 h v (l.map dO) B
def kN (h:Heap) (x:List Value) (o:Ob) (B:List Nat):Prop:=∃ v,x=[.int .i64 o.cls,v]/\dx h v o.bp B
def nU (h:Heap) (x:List Value) (f:cJ) (B:List Nat):Prop:=∃ c d a b,x=[.int .i64 f.aG,.int .i64 f.pc,c,d]/\dx h c f.locals a/\dx h d f.stack b/\B=a++b
inductive Rows {α:Type} (R:Heap->List Value->α->List Nat->Prop) (h:Heap):List (List Value)->List α->List Nat->Prop where
 | nil:Rows R h [] [] []
 | cons {x:List Value} {a:α} {B1:List Nat} {xs:List (List Value)} {l:List α} {B2:List Nat} (h1:R h x a B1) (h2:Rows R h xs l B2):Rows R h (x::xs) (a::l) (B1++B2)
def ep {d:Type} (R:Heap->List Value->d->List Nat->Prop) (sz:Nat) (h:Heap) (v:Value) (l:List d) (B:List Nat):Prop:=∃ c a b,bY sz h v c a/\Rows R h c l b/\B=a++b
def gZ (h:Heap) (mc:List Value) (m:cr) (B:List Nat):Prop:=∃ e d f a b c,mc=[e,d,f,.int .i64 m.steps,.int .i64 m.fin,.bool m.out.ref,.int .i64 m.out.n] /\
 ep kN 2 h e m.objs a/\ep nU 4 h d m.aq b/\dM h f m.said c/\B=a++b++c
def cS (h a:Heap) (B:List Nat):Prop:=∀ b∈B,∀ o,h b=some o->a b=some o
theorem cS.of_le {h a:Heap} (c:h.le a) (B:List Nat):cS h a B:=λb _ o d=>c b o d
theorem cS.sub {h a:Heap} {A B:List Nat} (d:cS h a B) (e:∀ b∈A,b∈B):cS h a A:=λb c=>d b (e b c)
theorem cS.l {h a:Heap} {A B:List Nat} (c:cS h a (A++B)):cS h a A:=c.sub λd b=>u_.2 (.inl b)
theorem cS.r {h a:Heap} {A B:List Nat} (c:cS h a (A++B)):cS h a B:=c.sub λd b=>u_.2 (.inr b)
theorem bY.aK {sz:Nat} {h a:Heap} {v:Value} {xs:List (List Value)} {B:List Nat} (m:cS h a B) (o:bY sz h v xs B):bY sz a v xs B:=by
 obtain⟨i,j⟩:=o;refine⟨i,j.imp id ?_⟩;rintro⟨b,c,rest,t,d,e,f,g,rfl⟩;exact⟨b,c,rest,t,d,e,m b Z _ f,g,rfl⟩
theorem kN.aK {h a:Heap} {x:List Value} {o:Ob} {B:List Nat} (d:cS h a B) (e:kN h x o B):kN a x o B:=by
 obtain⟨v,b,c⟩:=e;exact⟨v,b,c.aK d⟩
theorem nU.aK {h a:Heap} {x:List Value} {f:cJ} {B:List Nat} (b:cS h a B) (j:nU h x f B):nU a x f B:=by
 obtain⟨m,o,c,d,e,g,i,rfl⟩:=j;exact⟨m,o,c,d,e,g.aK b.l,i.aK b.r,rfl⟩
def Kept {c:Type} (R:Heap->List Value->c->List Nat->Prop):Prop:=∀(h b:Heap) (x:List Value) (a:c) (B:List Nat),cS h b B->R h x a B->R b x a B
theorem Rows.aK {c:Type} {R:Heap->List Value->c->List Nat->Prop} (e:Kept R) {h a:Heap} {xs:List (List Value)} {l:List c} {B:List Nat} (f:Rows R h xs l B):cS h a B->Rows R a xs l B:=by
 induction f with
 | nil=>exact λ_=>.nil
 | cons d _ g=>exact λb=>.cons (e _ _ _ _ _ b.l d) (g b.r)
theorem ep.aK {c:Type} {R:Heap->List Value->c->List Nat->Prop} (i:Kept R) {sz:Nat} {h a:Heap} {v:Value} {l:List c} {B:List Nat} (b:cS h a B) (j:ep R sz h v l B):ep R sz a v l B:=by
 obtain⟨m,d,e,f,g,rfl⟩:=j;exact⟨m,d,e,f.aK b.l,g.aK i b.r,rfl⟩
theorem kO:Kept kN:=λ_ _ _ _ _=>kN.aK
theorem pN:Kept nU:=λ_ _ _ _ _=>nU.aK
theorem gZ.aK {h b:Heap} {mc:List Value} {m:cr} {B:List Nat} (a:cS h b B) (o:gZ h mc m B):gZ b mc m B:=by
 obtain⟨q,p,s,c,d,e,f,g,i,j,rfl⟩:=o;exact⟨q,p,s,c,d,e,f,g.aK kO a.l.l,i.aK pN a.l.r,j.aK a.r,rfl⟩
theorem Rows.len {a:Type} {R:Heap->List Value->a->List Nat->Prop} {h:Heap} {xs:List (List Value)} {l:List a} {B:List Nat} (b:Rows R h xs l B):xs.length=l.length:=by
 induction b with
 | nil=>rfl
 | cons _ _ c=>simp[c]
theorem Rows.app {a:Type} {R:Heap->List Value->a->List Nat->Prop} {h:Heap} {xs ys:List (List Value)} {l k:List a} {A B:List Nat} (c:Rows R h xs l A) (d:Rows R h ys k B):Rows R h (xs++ys) (l++k) (A++B):=by
 induction c with
 | nil=>exact d
 | cons b _ e=>simp only[List.cons_append,List.append_assoc];exact .cons b e
theorem Rows.one {b:Type} {R:Heap->List Value->b->List Nat->Prop} {h:Heap} {x:List Value} {a:b} {B:List Nat} (c:R h x a B):Rows R h [x] [a] B:=by
 have:=Rows.cons c (Rows.nil (R:=R) (h:=h));simpa using this
theorem Rows.split {c:Type} {R:Heap->List Value->c->List Nat->Prop} {h:Heap}:∀ {l k:List c} {xs:List (List Value)} {B:List Nat},Rows R h xs (l++k) B ->
  ∃ ys b A C,xs=ys++b/\B=A++C/\Rows R h ys l A/\Rows R h b k C
 | [],k,xs,B,hr=>⟨[],xs,[],B,rfl,rfl,.nil,hr⟩
 | a::l,k,xs,B,hr=>by
  cases hr with
  | cons d e =>
   obtain⟨ys,b,A,C,rfl,rfl,f,g⟩:=Rows.split e;exact⟨_::ys,b,_,C,rfl,Z,.cons d f,g⟩
theorem Rows.single {b:Type} {R:Heap->List Value->b->List Nat->Prop} {h:Heap} {xs:List (List Value)} {a:b} {B:List Nat} (e:Rows R h xs [a] B):∃ x,xs=[x]/\R h x a B:=by
 cases e with
 | cons c d=>cases d;exact⟨_,rfl,by simpa using c⟩
theorem bY.in {sz:Nat} {h:Heap} {v:Value} {xs:List (List Value)} {B:List Nat} (c:bY sz h v xs B):∀ b∈B,∃ o,h b=some o:=by
 obtain⟨_,⟨_,_,rfl⟩|⟨b,d,rest,t,_,_,a,_,rfl⟩⟩:=c
 ·simp
 simp[a]
def GM {a:Type} (R:Heap->List Value->a->List Nat->Prop):Prop:=∀(h:Heap) (x:List Value) (b:a) (B:List Nat),R h x b B->∀ c∈B,∃ o,h c=some o
theorem Rows.in {a:Type} {R:Heap->List Value->a->List Nat->Prop} (d:GM R) {h:Heap} {xs:List (List Value)} {l:List a} {B:List Nat} (f:Rows R h xs l B):∀ b∈B,∃ o,h b=some o:=by
 induction f with
 | nil=>simp
 | cons c _ g=>exact λb e=>(u_.1 e).elim (d _ _ _ _ c b) (g b)
theorem kN.in {h:Heap} {x:List Value} {o:Ob} {B:List Nat} (c:kN h x o B):∀ b∈B,∃ o,h b=some o:=by
 obtain⟨v,_,a⟩:=c;exact a.in
theorem nU.in {h:Heap} {x:List Value} {f:cJ} {B:List Nat} (e:nU h x f B):∀ b∈B,∃ o,h b=some o:=by
 obtain⟨j,m,g,i,_,a,c,rfl⟩:=e;exact λb d=>(u_.1 d).elim (a.in b) (c.in b)
theorem xJ:GM kN:=λ_ _ _ _=>kN.in
theorem OI:GM nU:=λ_ _ _ _=>nU.in
theorem ep.in {a:Type} {R:Heap->List Value->a->List Nat->Prop} (e:GM R) {sz:Nat} {h:Heap} {v:Value} {l:List a} {B:List Nat} (g:ep R sz h v l B):∀ b∈B,∃ o,h b=some o:=by
 obtain⟨m,i,j,c,d,rfl⟩:=g;exact λb f=>(u_.1 f).elim (c.in b) (d.in e b)
theorem gZ.in {h:Heap} {mc:List Value} {m:cr} {B:List Nat} (f:gZ h mc m B):∀ b∈B,∃ o,h b=some o:=by
 obtain⟨q,p,s,g,i,j,_,c,d,e,rfl⟩:=f;intro b a;rcases u_.1 a with a|a
 ·rcases u_.1 a with a|a
  ·exact c.in xJ b a
  exact d.in OI b a
 exact e.in b a
structure Ev (h h':Heap) (S S':List Nat):Prop where
 sr:∀ b,h b≠none->b ∉ S->h' b=h b
 new:∀ b∈S',b∈S\/h b=none
theorem Ev.refl (h:Heap) (S:List Nat):Ev h h S S:=⟨λ_ _ _=>rfl,λ_ a=>.inl a⟩
theorem Ev.trans {h j o:Heap} {S g i:List Nat} (a:Ev h j S g) (b:Ev j o g i):Ev h o S i where
 sr c hc e:=by
  have m:=a.sr c hc e;rw[b.sr c (by rw[m];exact hc) (λd=>(a.new c d).elim e hc),m]
 new c hc:=by
  rcases b.new c hc with d|d
  ·exact a.new c d
  by_cases e:c∈S
  ·exact .inl e
  by_cases f:h c=none
  ·exact .inr f
  rw[a.sr c f e]at d;exact absurd d f
theorem Ev.le {h0 h c:Heap} {S e:List Nat} (f:Ev h c S e) (g:h0.le h) (j:∀ b∈S,h0 b=none):h0.le c:=by
 intro b o a;have d:=g b o a;rw[f.sr b (by rw[d];simp) (λi=>by rw[j b i]at a;cases a)];exact d
theorem Ev.fresh {h0 h e:Heap} {S c:List Nat} (d:Ev h e S c) (i:h0.le h) (j:∀ b∈S,h0 b=none):∀ b∈c,h0 b=none:=by
 intro b f;rcases d.new b f with a|a
 ·exact j b a
 cases g:h0 b with
 | none=>rfl
 | some o=>rw[i b o g]at a;cases a
theorem Ev.aK {h a:Heap} {S d A:List Nat} (e:Ev h a S d) (g:∀ b∈A,b ∉ S):cS h a A:=λb f o c=>by rw[e.sr b (by rw[c];simp) (g b f)];exact c
theorem Ev.of_le {h c:Heap} {S:List Nat} (e:h.le c) (a:List Nat) (f:∀ b∈a,b∈S\/h b=none):Ev h c S a where
 sr b hb _:=by
  cases d:h b with
  | none=>exact absurd d hb
  | some o=>exact e b o d
 new:=f
theorem Ev.more {h f:Heap} {S d:List Nat} (e:Ev h f S d) (A:List Nat):Ev h f (A++S) (A++d) where
 sr b a hs:=e.sr b a (λc=>hs (u_.2 (.inr c)))
 new b a:=by
  rcases u_.1 a with a|a
  ·exact .inl (u_.2 (.inl a))
  exact(e.new b a).imp (λc=>u_.2 (.inr c)) id
theorem aY {h:Heap} {b:Nat} {cs:List Value} {t:TypeId} {fz:Nat × Nat} (a:h b=some (.cells cs.toArray t fz)) {i:Nat} {v:Value} (c:cs[i]? = some v):rd h b i=some v:=by
 simp[rd,a,c]
theorem Bt {pre x post:List Value} {i:Nat} {v:Value} (a:x[i]? = some v):(pre++x++post)[pre.length+i]? = some v:=by
 have b:i < x.length:=(List.getElem?_eq_some_iff.1 a).1;rw[List.append_assoc,List.getElem?_append_right O,Nat.add_sub_cancel_left,List.getElem?_append_left b];exact a
theorem cX {h:Heap} {b:Nat} {pre x post:List Value} {t:TypeId} {fz:Nat × Nat} (a:h b=some (.cells (pre++x++post).toArray t fz)) {i n:Nat} {v:Value} (c:n=pre.length+i) (d:x[i]? = some v):rd h b n=some v:=by
 subst c;exact aY a (Bt d)
theorem kg {pre x post:List Value} {i n:Nat} {v:Value} (b:n=pre.length+i) (a:i < x.length):eH (pre++x++post) n [v]=pre++x.set i v++post:=by
 subst b;simp only[eH,qG];rw[List.append_assoc,List.set_append,if_neg O,Nat.add_sub_cancel_left,List.set_append,if_pos a,List.append_assoc]
def Nd (l:List Nat):Prop:=∀ a,l.count a<=1
theorem Nd.perm {l k:List Nat} (h:Nd l) (b:∀ a,k.count a=l.count a):Nd k:=λa=>by rw[b a];exact h a
theorem Nd.less {l k:List Nat} (h:Nd l) (b:∀ a,k.count a<=l.count a):Nd k:=λa=>Nat.le_trans (b a) (h a)
theorem Nd.swap {A X X':List Nat} (h:Nd (A++X)) (g:Nd X') (f:∀ b∈X',b∈X\/b ∉ A):Nd (A++X'):=by
 intro a;have e:=h a;have i:=g a;simp only[Y_]at e ⊢;by_cases d:a∈X'
 ·have:A.count a=0:=by
   rcases f a d with c|c
   ·have:=W_.2 c;omega
   exact List.count_eq_zero.2 c
  omega
 have:=List.count_eq_zero.2 d;omega
theorem bY.nd {sz:Nat} {h:Heap} {v:Value} {xs:List (List Value)} {B:List Nat} (b:bY sz h v xs B):Nd B:=by
 obtain⟨_,⟨_,_,rfl⟩|⟨c,d,rest,t,_,_,_,_,rfl⟩⟩:=b
 ·intro a;simp
 intro a;simp only[X_,List.count_nil];split<;>omega
theorem fL {l k:List Nat} (c:∀ a,k.count a=l.count a) (b:Nat):b∈k↔b∈l:=by
 rw[<-W_,<-W_,c b]
theorem ep.at {s:Type} {R:Heap->List Value->s->List Nat->Prop} (z:Kept R) {sz:Nat} {h:Heap} {v:Value} {i j:List s} {a:s} {B:List Nat} (S:ep R sz h v (i++a::j) B) :
  ∃ b c x pre post t m Bi,v=.slice (some ⟨b,0,none⟩) (i.length+j.length+1) c/\i.length+j.length+1<=c/\h b=some (.cells (pre++x++post).toArray t (0,0))/\pre.length=i.length*sz/\x.length=sz/\R h x a Bi /\
   (∀ n,B.count n=(b::m++Bi).count n) /\
   ∀ f x' o e,f b=some (.cells (pre++x'++post).toArray t (0,0))->x'.length=sz->R f x' o e->cS h f m->∃ B',ep R sz f v (i++o::j) B'/\∀ n,B'.count n=(b::m++e).count n:=by
 obtain⟨X,V,W,⟨g,N⟩,H,rfl⟩:=S;obtain⟨G,q,A,C,rfl,rfl,u,I⟩:=Rows.split H;cases I with
 | @cons x _ Bi q _ C J w =>
 have p:=u.len;have F:=w.len;rcases N with ⟨_,Q,_⟩|⟨b,c,rest,t,rfl,D,L,P,rfl⟩
 ·simp at Q
 refine⟨b,c,x,G.flatten,q.flatten++rest,t,A++C,Bi,?_,?_,?_,?_,g x Z,J,?_,?_⟩
 ·simp[p,F];omega
 ·simp[p,F]at D;omega
 ·rw[L];simp
 ·rw[cE (sz:=sz) (λy d=>g y (by simp[d])),p]
 ·intro n;simp[Y_,X_];omega
 intro f x' o e M T K E;refine⟨[b]++(A++(e++C)),⟨G++x'::q,[b],A++(e++C),⟨?_,.inr ⟨b,c,rest,t,Z,by simpa using D,by rw[M];simp,?_,rfl⟩⟩,(u.aK z E.l).app (.cons K (w.aK z E.r)),rfl⟩,?_⟩
 ·intro y d;simp only[u_,List.mem_cons]at d;rcases d with d|rfl|d
  ·exact g y (by simp[d])
  ·exact T
  exact g y (by simp[d])
 ·have:=g x Z;simp only[List.flatten_append,List.flatten_cons,U_]at P ⊢;omega
 intro n;simp[Y_,X_];omega
theorem ep.pop {e:Type} {R:Heap->List Value->e->List Nat->Prop} {sz:Nat} {h:Heap} {p:Option Addr} {n c:Nat} {l:List e} {a:e} {B:List Nat} (u:ep R sz h (.slice p n c) (l++[a]) B) :
  n=l.length+1/\∃ B',ep R sz h (.slice p l.length c) l B'/\∀ n,B'.count n<=B.count n:=by
 obtain⟨J,D,E,⟨v,o⟩,i,rfl⟩:=u;obtain⟨C,K,A,F,rfl,rfl,f,j⟩:=Rows.split i;obtain⟨y,rfl,H⟩:=j.single;have d:=f.len;rcases o with ⟨_,t,_⟩|⟨b,G,rest,x,g,q,m,s,rfl⟩
 ·simp at t
 simp only[Z_]at g;obtain⟨rfl,rfl,rfl⟩:=g;refine⟨by simp[d],[b]++A,⟨C,[b],A,⟨λz w=>v z (by simp[w]),.inr ⟨b,c,y++rest,x,by simp[d],by simp[d]at q ⊢;omega,by rw[m];simp,by simpa using s,rfl⟩⟩,f,rfl⟩,λI=>?_⟩;simp[Y_,X_]
theorem bY.at {sz:Nat} {h:Heap} {v:Value} {xs ys:List (List Value)} {x:List Value} {B:List Nat} (p:bY sz h v (xs++x::ys) B) :
  ∃ b c pre post t,v=.slice (some ⟨b,0,none⟩) (xs.length+ys.length+1) c/\h b=some (.cells (pre++x++post).toArray t (0,0))/\pre.length=xs.length*sz/\x.length=sz/\B=[b] /\
   ∀ e x',e b=some (.cells (pre++x'++post).toArray t (0,0))->x'.length=sz->bY sz e v (xs++x'::ys) B:=by
 obtain⟨d,i⟩:=p;rcases i with ⟨_,o,_⟩|⟨b,c,rest,t,rfl,j,f,m,rfl⟩
 ·simp at o
 refine⟨b,c,xs.flatten,ys.flatten++rest,t,by simp[Nat.add_assoc],by rw[f];simp,cE (sz:=sz) (λy a=>d y (by simp[a])),d x Z,rfl,?_⟩;intro e x' g q;refine⟨?_,.inr ⟨b,c,rest,t,Z,by simpa using j,by rw[g];simp,?_,rfl⟩⟩
 ·intro y a;simp only[u_,List.mem_cons]at a;rcases a with a|rfl|a
  ·exact d y (by simp[a])
  ·exact q
  exact d y (by simp[a])
 have:=d x Z;simp only[List.flatten_append,List.flatten_cons,U_]at m ⊢;omega
structure kz (h0 h:Heap) (bm:Nat) (pre post:List Value) (M:cr) (B:List Nat):Prop where
 le:h0.le h
 cell:∃ mc t,h bm=some (.cells (pre++mc++post).toArray t (0,0))/\gZ h mc M B
 nd:Nd (bm::B)
 fr:∀ b∈bm::B,h0 b=none
def aR (b a vs:Value) (M:cr):List Value:=[b,a,vs,.int .i64 M.steps,.int .i64 M.fin,.bool M.out.ref,.int .i64 M.out.n]
theorem kz.top {h0 h:Heap} {bm:Nat} {pre post:List Value} {M:cr} {B:List Nat} {fs:List cJ} {f:cJ} (T:kz h0 h bm pre post M B) (K:M.aq=fs++[f]) :
  ∃ v vs d c y t q r z C a B1 p,h bm=some (.cells (pre++aR v (.slice (some ⟨d,0,none⟩) (fs.length+1) c) vs M++post).toArray y (0,0)) /\
   h d=some (.cells (q++[.int .i64 f.aG,.int .i64 f.pc,z,C]++r).toArray t (0,0))/\q.length=fs.length*4/\dx h z f.locals B1/\dx h C f.stack p /\
   Nd (bm::d::(a++B1++p))/\(∀ b∈bm::d::(a++B1++p),∃ o,h b=some o)/\(∀ b,b∈bm::B↔b∈bm::d::(a++B1++p)) /\
   ∀ g f' A D j s,g bm=h bm->g d=some (.cells (q++[.int .i64 f'.aG,.int .i64 f'.pc,A,D]++r).toArray t (0,0))->dx g A f'.locals j->dx g D f'.stack s->cS h g a ->
    Nd (bm::d::(a++j++s))->Ev h g (bm::B) (bm::d::(a++j++s))->∃ B',kz h0 g bm pre post {M with aq:=fs++[f']} B'/\Ev h g (bm::B) (bm::B'):=by
 obtain⟨hle,⟨mc,y,F,v,vf,vs,a,w,e,rfl,L,G,P,rfl⟩,nd,J⟩:=T;rw[K]at G;obtain⟨d,c,aa,q,r,t,Bx,Bi,rfl,_,V,Y,_,⟨z,C,B1,p,rfl,R,S,rfl⟩,W,nV⟩:=G.at pN;have X:∀ b∈bm::(a++w++e),∃ o,h b=some o:=by
  intro b u;rcases List.mem_cons.1 u with rfl|u
  ·exact⟨_,F⟩
  refine gZ.in (h:=h) (mc:=aR v _ vs M) (m:=M) ⟨v,_,vs,a,w,e,rfl,L,by rw[K];exact G,P,rfl⟩ b u
 have H:∀ i,(bm::d::((a++Bx++e)++B1++p)).count i=(bm::(a++w++e)).count i:=by
  intro i;have:=W i;simp only[Y_,X_]at this ⊢;omega
 refine⟨v,vs,d,c,y,t,q,r,z,C,a++Bx++e,B1,p,by simpa [aR]using F,V,Y,R,S,nd.perm H,λb u=>X b ((fL H b).1 u),λb=>(fL H b).symm,?_⟩;intro g f' A D j s k1 k2 k3 k4 I k6 Q;obtain⟨x,o1,o2⟩:=nV g _ f' (j++s) k2 rfl ⟨A,D,j,s,rfl,k3,k4,rfl⟩ I.l.r;have N:∀ i,(bm::(a++x++e)).count i=(bm::d::((a++Bx++e)++j++s)).count i:=by
  intro i;have:=o2 i;simp only[Y_,X_]at this ⊢;omega
 have E:Ev h g (bm::(a++w++e)) (bm::(a++x++e)):=⟨Q.sr,λb u=>Q.new b ((fL N b).1 u)⟩
 refine⟨a++x++e,⟨E.le hle J,⟨_,y,by rw[k1,F],v,_,vs,a,x,e,rfl,L.aK kO I.l.l,o1,P.aK I.r,rfl⟩,k6.perm N,E.fresh hle J⟩,E⟩
theorem fj {a b:Type} (g:a->b) (l:List a):((l.map g).length:Int)=l.length:=by simp
theorem JS {h:Heap} {b:Nat} {pre x post:List Value} {t:TypeId} {fz:Nat × Nat} {i n:Nat} {v:Value} (c:n=pre.length+i) (a:i < x.length) :
  h.set b (.cells (eH (pre++x++post) n [v]).toArray t fz)=h.set b (.cells (pre++x.set i v++post).toArray t fz):=by rw[kg c a]
def ju (sz:Nat) (h:Heap) (v:Value) (xs:List (List Value)):Prop:=xs.length<=1000000/\(∀ x∈xs,x.length=sz)/\∃ p c,v=.slice p xs.length c/\xs.length<=c/\(xs=[]\/∃ b a,p=some ⟨b,a,none⟩/\dP h b a (xs.length*sz)=some xs.flatten)
theorem ju.le {sz:Nat} {h a:Heap} {v:Value} {xs:List (List Value)} (j:h.le a) (m:ju sz h v xs):ju sz a v xs:=by
 obtain⟨d,e,p,c,rfl,f,g⟩:=m;refine⟨d,e,p,c,rfl,f,g.imp id ?_⟩;rintro⟨b,o,rfl,i⟩;exact⟨b,o,rfl,dD j i⟩
theorem bY.read {sz:Nat} {h:Heap} {v:Value} {xs:List (List Value)} {B:List Nat} (i:bY sz h v xs B) (b:xs.length<=1000000):ju sz h v xs:=by
 obtain⟨a,⟨rfl,rfl,_⟩|⟨c,d,rest,t,rfl,f,e,j,_⟩⟩:=i
 ·exact⟨b,a,none,0,rfl,Z,.inl rfl⟩
 refine⟨b,a,_,d,rfl,f,.inr ⟨c,0,rfl,?_⟩⟩;have g:=cE a;rw[bA e _ _ (by simp only[U_];omega)];simp[<-g]
theorem ju.IC {sz:Nat} {h:Heap} {p:Option Addr} {n c:Nat} {xs:List (List Value)} {K:List Value->Prop} (f:ju sz h (.slice p n c) xs) (b:K xs.flatten):Lo h p (n*sz) K:=by
 obtain⟨_,_,m,j,a,_,e⟩:=f;simp only[Z_]at a;obtain⟨rfl,rfl,rfl⟩:=a;rw[oZ];unfold zD;rcases e with rfl|⟨d,i,rfl,g⟩
 ·exact .inl ⟨.inr Z,b⟩
 exact .inr ⟨d,i,_,rfl,g,b⟩
abbrev pO (h:Heap) (v:Value) (l:List Vl):Prop:=ju 2 h v (l.map dO)
abbrev Bu (h:Heap) (v:Value) (l:List Int):Prop:=ju 1 h v (l.map bD)
theorem jw:∀ l:List Vl,dI (l.map dO).flatten=true
 | []=>rfl
 | x::l=>by simp[dO,dI,jl,jw l]
theorem mK (v:Value) (l:List Int) (h:Heap) (f:Bu h v l) :
  bq prog 131 [v] h λv a=>h.le a/\∃ B,dM a v l B/\∀ b∈B,h b=none:=by
 have q:=f;obtain⟨c,z,t,w,rfl,A,p⟩:=f;have C:=fj bD l;refine bE ax func131 P9 U rfl ?_;conv=>whnf
 refine JG rfl rfl rfl ?_;conv=>whnf
 cases t with
 | none =>
  conv=>whnf
  have e:l.map bD=[]:=p.elim id (λ⟨_,_,s,_⟩=>by cases s);exact⟨z_ h,[],⟨by simp[e],.inl ⟨rfl,e,rfl⟩⟩,Z⟩
 | some u =>
  conv=>whnf
  refine new (λb d=>?_);conv=>whnf
  have hle:=Heap.aT (z_ h) d (o:=.cells #[] 3);refine(q.le hle).IC ?_;conv=>whnf
  refine dh (h0:=h) (xs:=[]) (ys:=l.map bD) (B:=[b]) ⟨Z,.inr ⟨b,0,[],3,rfl,Z,by simp[Heap.set,sg],Z,rfl⟩⟩ (by simpa using d) hle rfl rfl (by simp[bD]) (by rw[dj];exact cR l) rfl (by simp;simp at c;omega) (by simp;simp at c;omega) ?_;intro D a g i j m x y;conv=>whnf
  exact⟨i,g,by simpa using j,m⟩
def OJ (h:Heap) (x:List Value) (o:Ob):Prop:=∃ v,x=[.int .i64 o.cls,v]/\pO h v o.bp
def GN (h:Heap) (x:List Value) (f:cJ):Prop:=∃ a b,x=[.int .i64 f.aG,.int .i64 f.pc,a,b]/\pO h a f.locals/\pO h b f.stack
def yy (h:Heap) (mc:List Value) (M:cr):Prop:=∃ b a c,mc=aR b a c M/\M.objs.length<=1000000/\M.aq.length<=1000000/\Row 2 OJ h b M.objs/\Row 4 GN h a M.aq/\Bu h c M.said
theorem OJ.le {h a:Heap} (d:h.le a) {x:List Value} {o:Ob} (e:OJ h x o):OJ a x o:=by
 obtain⟨v,b,c⟩:=e;exact⟨v,b,c.le d⟩
theorem GN.le {h a:Heap} (b:h.le a) {x:List Value} {f:cJ} (g:GN h x f):GN a x f:=by
 obtain⟨i,j,c,d,e⟩:=g;exact⟨i,j,c,d.le b,e.le b⟩
theorem yy.le {h c:Heap} (a:h.le c) {mc:List Value} {M:cr} (m:yy h mc M):yy c mc M:=by
 obtain⟨p,o,q,d,e,f,g,i,j⟩:=m;exact⟨p,o,q,d,e,f,g.le a (λ_ _ b=>b.le a),i.le a (λ_ _ b=>b.le a),j.le a⟩
def Small (M:cr):Prop:=M.objs.length<=1000000/\M.aq.length<=1000000/\M.said.length<=1000000/\(∀ o∈M.objs,o.bp.length<=1000000)/\∀ f∈M.aq,f.locals.length<=1000000/\f.stack.length<=1000000
theorem Rows.mem {c:Type} {R:Heap->List Value->c->List Nat->Prop} {h:Heap} {xs:List (List Value)} {l:List c} {B:List Nat} (e:Rows R h xs l B):∀ i (a:i < l.length) (b:i < xs.length),∃ C,R h xs[i] l[i] C:=by
 induction e with
 | nil=>intro i a;simp at a
 | cons d _ f =>
  intro i a b;cases i with
  | zero=>exact⟨_,d⟩
  | succ i=>simpa using f i (by simpa using a) (by simpa using b)
theorem ep.row {c:Type} {R:Heap->List Value->c->List Nat->Prop} {Q:Heap->List Value->c->Prop} {sz:Nat} {h:Heap} {v:Value} {l:List c} {B:List Nat} (A:ep R sz h v l B) (M:l.length<=1000000) (D:∀ x a C,a∈l->R h x a C->Q h x a):Row sz Q h v l:=by
 obtain⟨b,I,J,⟨q,w⟩,d,_⟩:=A;have p:=d.len;rcases w with ⟨rfl,rfl,_⟩|⟨s,t,rest,N,rfl,K,u,L,_⟩
 ·have:l=[]:=List.eq_nil_of_length_eq_zero (by simpa using p.symm);subst this;exact⟨Z,none,0,rfl,Z,.inl rfl⟩
 refine⟨O,_,t,by rw[p],O,.inr ⟨s,0,rfl,λi a y=>?_⟩⟩;obtain⟨m,j⟩:=List.getElem?_eq_some_iff.1 y;have o:i < b.length:=by omega
 obtain⟨C,f⟩:=d.mem i m o;rw[j]at f;refine⟨b[i],?_,D _ _ C (j ▸ x_ m) f⟩;have E:b=b.take i++b[i]::b.drop (i+1):=by simp
 have F:(b.take i).flatten.length=i*sz:=by
  rw[cE (sz:=sz) (λH G=>q H (List.mem_of_mem_take G)),List.length_take,Nat.min_eq_left O]
 have z:(b[i]).length=sz:=q _ (x_ o);have g:b.flatten++rest=(b.take i).flatten++(b[i]++((b.drop (i+1)).flatten++rest)):=by
  have e:=congrArg List.flatten E;simp only[List.flatten_append,List.flatten_cons]at e;rw[e];simp only[List.append_assoc]
 rw[bA u _ _ (by rw[g];simp only[U_];omega),g];simp only[Nat.zero_add];rw[List.drop_append_of_le_length O,<-F,List.drop_length,List.nil_append,<-z,List.take_left]
theorem gZ.read {h:Heap} {mc:List Value} {M:cr} {B:List Nat} (p:gZ h mc M B) (q:Small M):yy h mc M:=by
 obtain⟨y,x,z,D,E,F,rfl,i,j,m,rfl⟩:=p;obtain⟨e,f,s,t,g⟩:=q;refine⟨y,x,z,rfl,e,f,i.row e ?_,j.row f ?_,m.read (by simpa using s)⟩
 ·rintro A a C b ⟨v,c,d⟩;exact⟨v,c,d.read (by simpa using t a b)⟩
 rintro A a C b ⟨u,w,G,H,c,d,o,_⟩;exact⟨u,w,c,d.read (by simpa using (g a b).1),o.read (by simpa using (g a b).2)⟩
theorem ep.form {a:Type} {R:Heap->List Value->a->List Nat->Prop} {sz:Nat} {h:Heap} {v:Value} {l:List a} {B:List Nat} (e:ep R sz h v l B):∃ p c,v=.slice p l.length c/\l.length<=c:=by
 obtain⟨j,f,g,b,d,_⟩:=e;obtain⟨p,c,rfl,i⟩:=b.form;have:=d.len;exact⟨p,c,by rw[this],O⟩
theorem mL {s:Type} {R:Heap->List Value->s->List Nat->Prop} (z:Kept R) (y:GM R) {bytes sz:Nat} {zero:List Value} {G:TypeId} {h0 h:Heap} {p:Option Addr} {n cap:Nat} {l:List s} {a:s} {B Bi:List Nat} {m:Nat} {vs:List Value} {K:Value->Heap->Prop}
  (e:ep R sz h (.slice p n cap) l B) (i:R h vs a Bi) (E:Nd (B++Bi)) (x:∀ b∈B++Bi,h0 b=none) (hle:h0.le h) (Y:m=1) (RF:vs.length=sz) (P:dI vs=true) (hz:zero.length=sz)
  (M:(l.length+1)*bytes<=2 ^ 44) (N:l.length+1<=2 ^ 44)
  (W:∀ j d B',h0.le d->ep R sz d j (l++[a]) B'->Nd B'->(∀ b∈B',h0 b=none)->Ev h d (B++Bi) B'->K j d):App bytes sz zero G h p n cap m vs K:=by
 obtain⟨xs,t,g,J,o,rfl⟩:=e;have D:=o.len;have T:=o.in y;have V:=y _ _ _ _ i;refine dh (h0:=h0) (ys:=[vs]) J (λb c=>x b (by simp[c])) hle Z Y (by simpa using RF) P hz (by simpa [D]using M) (by simpa [D]using N) ?_;intro j d B' H u I v w;have Q:=E;have F:∀ b,b∈g++Bi->b ∉ t:=by
  intro b c L;have:=Q b;have:=W_.2 c;have:=W_.2 L;simp only[Y_]at *;omega
 have S:∀ b,b∈g++Bi->∃ q,h b=some q:=λb c=>(u_.1 c).elim (T b) (V b);have C:cS h d (g++Bi):=λb c q e=>by rw[v b (F b c) (by rw[e];simp)];exact e
 refine W j d (B'++(g++Bi)) H ⟨xs++[vs],B',g++Bi,by simpa using u,(o.aK z C.l).app (Rows.one (z _ _ _ _ _ C.r i)),rfl⟩ ?_ ?_ ?_
 ·have:=Nd.swap (A:=g++Bi) (X:=t) (X':=B') (E.perm λa=>by simp only[Y_];omega) u.nd (λb c=>?_)
  ·exact this.perm λa=>by simp only[Y_];omega
  rcases w b c with f|f
  ·exact .inl f
  refine .inr λi=>?_;obtain⟨q,e⟩:=S b i;rw[f]at e;cases e
 ·intro b c;rcases u_.1 c with c|c
  ·exact I b c
  exact x b (by simp at c ⊢;grind)
 refine⟨λb c hs=>v b (λf=>hs (by simp[f])) c,λb c=>?_⟩;rcases u_.1 c with c|c
 ·exact(w b c).imp (λf=>by simp[f]) id
 exact .inl (by simp at c ⊢;grind)
structure Acc {α:Type} (R:Heap->List Value->α->List Nat->Prop) (sz:Nat) (h0 h:Heap) (v:Value) (l:List α) (B A:List Nat):Prop where
 le:h0.le h
 own:ep R sz h v l B
 nd:Nd (B++A)
 fr:∀ b∈B++A,h0 b=none
 Xk:∀ b∈A,∃ o,h b=some o
theorem wF {x:Type} {R:Heap->List Value->x->List Nat->Prop} (E:Kept R) (D:GM R) {bytes sz:Nat} {zero:List Value} {G:TypeId} {h0 h j:Heap} {p:Option Addr} {n cap:Nat} {l:List x} {a:x} {B A Bi:List Nat} {m:Nat} {vs:List Value} {K:Value->Heap->Prop}
  (ac:Acc R sz h0 h (.slice p n cap) l B A) (q:h.le j) (u:R j vs a Bi) (N:Nd Bi) (g:∀ b∈Bi,h b=none) (Y:m=1) (RF:vs.length=sz) (S:dI vs=true) (hz:zero.length=sz)
  (P:(l.length+1)*bytes<=2 ^ 44) (Q:l.length+1<=2 ^ 44)
  (W:∀ s i f B',Acc R sz h0 f (.slice s (l.length+1) i) (l++[a]) B' A->cS h f A->K (.slice s (l.length+1) i) f):App bytes sz zero G j p n cap m vs K:=by
 obtain⟨hle,own,nd,y,v⟩:=ac;have V:=own.in D;have key:∀ b,b∈Bi->b ∉ B++A:=by
  intro b c d;rcases u_.1 d with d|d
  ·obtain⟨o,e⟩:=V b d;rw[g b c]at e;cases e
  obtain⟨o,e⟩:=v b d;rw[g b c]at e;cases e
 have w:Nd (B++A++Bi):=by
  have:=Nd.swap (A:=B++A) (X:=[]) (X':=Bi) (by simpa using nd) N (λb c=>.inr (key b c));exact this
 have H:∀ b∈Bi,h0 b=none:=by
  intro b c;cases T:h0 b with
  | none=>rfl
  | some o=>have:=g b c;rw[hle b o T]at this;cases this
 refine mL E D (h0:=h0) (own.aK E (cS.of_le q _)) u (w.less λa=>by simp only[Y_];omega) (λb c=>?_) (y_ hle q) Y RF S hz P Q ?_
 ·rcases u_.1 c with c|c
  ·exact y b (by simp[c])
  exact H b c
 intro v' f B' I t J L z;obtain⟨s,i,rfl,JD⟩:=t.form;have M:∀ b∈A,b ∉ B++Bi:=by
  intro b c d;have:=w b;have j:=W_.2 c;have f:=W_.2 d;simp only[Y_]at *;omega
 have F:cS h f A:=λb c o e=>by
  have C:=q b o e;rw[z.sr b (by rw[C];simp) (M b c)];exact C
 have g:(l++[a]).length=l.length+1:=by simp
 rw[g]at t ⊢;refine W s i f B' ⟨I,t,?_,?_,λb c=>?_⟩ F
 ·have:=Nd.swap (A:=A) (X:=B++Bi) (X':=B') (w.perm λa=>by simp only[Y_];omega) J (λb c=>?_)
  ·exact this.perm λa=>by simp only[Y_];omega
  rcases z.new b c with d|d
  ·exact .inl d
  refine .inr λu=>?_;obtain⟨o,e⟩:=v b u;rw[q b o e]at d;cases d
 ·intro b c;rcases u_.1 c with c|c
  ·exact L b c
  exact y b (by simp[c])
 obtain⟨o,e⟩:=v b c;exact⟨o,F b c o e⟩
def gT (u:aI) (x:dc):Option (List Int) :=
 if x.kind=4\/x.kind=5\/x.kind=6\/x.kind=22 then some [0]
 else if x.kind=7\/x.kind=8\/x.kind=9 then some [1,1]
 else if x.kind=13\/x.kind=24 then some [1]
 else if x.kind=10\/x.kind=14\/x.kind=17\/x.kind=19\/x.kind=23 then some [2]
 else if x.kind=15 then some [2,1]
 else if x.kind=16 then some [2,1,0]
 else if x.kind=18 then some [2,0]
 else if x.kind=20 then some (List.replicate (bz u x.a).args.length 0)
 else if x.kind=21 then (if find u x.a x.b < 0 then none else some (2::List.replicate (bz u (find u x.a x.b)).args.length 0))
 else some []
theorem tJ {c s:Int}:∀(l:List bT) (k:Int),gz c s l k < k+l.length\/gz c s l k = -1
 | [],k=>.inr rfl
 | m::r,k=>by
  rw[gz];split
  ·left;simp;omega
  rcases tJ (c:=c) (s:=s) r (k+1)with h|h
  ·left;simp at h ⊢;omega
  exact .inr h
theorem rM {u:aI} {s:Int}:∀(k:Nat) (c:Int),-1<=kK u s k c/\(kK u s k c < u.methods.length)
 | 0,c=>by simp[kK];omega
 | k+1,c=>by
  rw[kK];split
  ·split
   ·have a:=tJ (c:=c) (s:=s) u.methods 0;omega
   exact rM k _
  omega
theorem eD (u:aI) (c s:Int) : -1<=find u c s/\find u c s < u.methods.length:=rM _ _
theorem jV {vs:List (List Value)} {sz:Nat} {h:Heap} {b n:Nat} {t:TypeId} (a:∀ x∈vs,x.length=sz) (d:n=vs.length) (c:h b=some (.cells vs.flatten.toArray t (0,0))):bY sz h (.slice (some ⟨b,0,none⟩) n n) vs [b]:=by
 subst d;exact⟨a,.inr ⟨b,_,[],t,rfl,Nat.le_refl _,by simpa using c,by rw[List.append_nil,cE a],rfl⟩⟩
theorem kz.mono {h0 h b:Heap} {bm:Nat} {pre post:List Value} {M:cr} {B:List Nat} (d:kz h0 h bm pre post M B) (a:h.le b):kz h0 b bm pre post M B:=by
 obtain⟨hle,⟨g,t,e,f⟩,nd,c⟩:=d;exact⟨y_ hle a,⟨g,t,a _ _ e,f.aK (cS.of_le a _)⟩,nd,c⟩
theorem cW {h d:Heap} (e:h.le d) {b i:Nat} {v:Value} (a:rd h b i=some v):rd d b i=some v:=by
 unfold rd at a ⊢;cases c:h b with
 | none=>rw[c]at a;cases a
 | some o=>rw[c]at a;rw[e b o c];exact a
theorem kz.in {h0 h:Heap} {bm:Nat} {pre post:List Value} {M:cr} {B:List Nat} (c:kz h0 h bm pre post M B):∀ b∈bm::B,∃ o,h b=some o:=by
 obtain⟨hle,⟨g,t,d,e⟩,nd,f⟩:=c;intro b a;rcases List.mem_cons.1 a with rfl|a
 ·exact⟨_,d⟩
 exact e.in b a
theorem sub {a:Option Addr} {cap l c:Nat} {K:Option Addr->Prop} (d:∀ b,(cap≠l->b=a.map λa=>a.add (l*c))->(cap=l->b=a)->K b):Sub a cap l c K:=by
 rw[vW];unfold DB;exact d
theorem bY.rest {sz:Nat} {h:Heap} {p c:Option Addr} {n cap l:Nat} {xs:List (List Value)} {B:List Nat} (s:bY sz h (.slice p n cap) xs B) (o:l<=n) (C:n<=1000000) (g:cap≠l->c=p.map λa=>a.add (l*sz)) (v:cap=l->c=p) :
  ju sz h (.slice c (n-l) (cap-l)) (xs.drop l):=by
 obtain⟨d,⟨b,rfl,_⟩|⟨f,u,rest,D,b,w,i,z,_⟩⟩:=s
 ·simp only[Z_]at b;obtain⟨rfl,rfl,rfl⟩:=b;have:l=0:=by omega
  subst this;exact⟨Z,Z,c,0,Z,Z,.inl Z⟩
 simp only[Z_]at b;obtain⟨rfl,rfl,rfl⟩:=b;refine⟨by simp;omega,λx q=>d x (List.mem_of_mem_drop q),c,cap-l,Z,by simp;omega,?_⟩;by_cases j:cap=l
 ·left
  apply List.eq_nil_of_length_eq_zero
  simp;omega
 right
 refine⟨f,l*sz,by rw[g j];simp[iV],?_⟩;have A:=cE d;have t:(xs.take l).flatten.length=l*sz:=by
  rw[cE (sz:=sz) (λy e=>d y (List.mem_of_mem_take e)),List.length_take,Nat.min_eq_left o]
 have m:(xs.drop l).flatten.length=(xs.drop l).length*sz:=cE (λy e=>d y (List.mem_of_mem_drop e));have b:xs.flatten=(xs.take l).flatten++(xs.drop l).flatten:=by rw[<-List.flatten_append,List.take_append_drop]
 rw[bA i _ _ (by rw[b];simp only[U_];omega),b];rw[List.append_assoc,List.drop_append_of_le_length O,<-t,List.drop_length,List.nil_append,<-m,List.take_left]
theorem bY.first {sz:Nat} {h:Heap} {p:Option Addr} {n cap l:Nat} {xs:List (List Value)} {B:List Nat} (g:bY sz h (.slice p n cap) xs B) (d:l<=n):bY sz h (.slice p l cap) (xs.take l) B:=by
 obtain⟨i,⟨a,rfl,rfl⟩|⟨b,j,rest,t,a,m,c,e,rfl⟩⟩:=g
 ·simp only[Z_]at a;obtain⟨rfl,rfl,rfl⟩:=a;have:l=0:=by omega
  subst this;exact⟨Z,.inl ⟨rfl,Z,rfl⟩⟩
 simp only[Z_]at a;obtain⟨rfl,rfl,rfl⟩:=a;have a:xs.flatten=(xs.take l).flatten++(xs.drop l).flatten:=by rw[<-List.flatten_append,List.take_append_drop]
 refine⟨λx f=>i x (List.mem_of_mem_take f),.inr ⟨b,cap,(xs.drop l).flatten++rest,t,?_,by simp;omega,by rw[c,a];simp,?_,rfl⟩⟩
 ·rw[List.length_take,Nat.min_eq_left d]
 rw[<-e,a];simp
theorem bY.nth {sz:Nat} {h:Heap} {p:Option Addr} {n cap:Nat} {xs:List (List Value)} {B:List Nat} (f:bY sz h (.slice p n cap) xs B) {i:Nat} (q:i < xs.length) :
  ∃ b,p=some ⟨b,0,none⟩/\dP h b (0+i*sz) sz=some xs[i]/\B=[b]:=by
 have g:xs=xs.take i++xs[i]::xs.drop (i+1):=by simp
 obtain⟨b,o,pre,post,t,a,e,c,m,d,_⟩:=bY.at (show bY sz h (.slice p n cap) (xs.take i++xs[i]::xs.drop (i+1)) B by rw[<-g];exact f);simp only[Z_]at a;refine⟨b,a.1,?_,d⟩;have j:(xs.take i).length=i:=by simp;omega
 rw[j]at c;rw[bA e _ _ (by simp only[U_];omega)];rw[Nat.zero_add,<-c,List.append_assoc,List.drop_left,<-m,List.take_left]
def iX:List Int->List Vl->Bool
 | w::ws,v::vs=>!((decide (w=1)&&v.ref)||(decide (w=2) && !v.ref))&&iX ws vs
 | _,_=>true
def eI (u:aI) (x:dc) (cA:List Vl):Option (List Vl × List Vl):=match gT u x with
 | none=>none
 | some a=>if cA.length < a.length then none else if iX a (cA.drop (cA.length-a.length))then some (cA.drop (cA.length-a.length),cA.take (cA.length-a.length))else none
theorem yz (l:List Vl) (k:Nat):(l.map dO).drop k=(l.drop k).map dO:=by rw[List.map_drop]
theorem kz.whole {h0 h:Heap} {bm:Nat} {pre post:List Value} {M:cr} {B:List Nat} (w:kz h0 h bm pre post M B) :
  ∃ t j g vs B1 e f,h bm=some (.cells (pre++aR j g vs M++post).toArray t (0,0))/\ep kN 2 h j M.objs B1/\ep nU 4 h g M.aq e/\dM h vs M.said f/\B=B1++e++f /\
   ∀ a m i o M' b c d,a bm=some (.cells (pre++aR m i o M'++post).toArray t (0,0))->ep kN 2 a m M'.objs b->ep nU 4 a i M'.aq c->dM a o M'.said d ->
    Nd (bm::(b++c++d))->Ev h a (bm::B) (bm::(b++c++d))->kz h0 a bm pre post M' (b++c++d):=by
 obtain⟨hle,⟨E,t,x,j,g,vs,B1,e,f,rfl,s,u,v,rfl⟩,nd,p⟩:=w;refine⟨t,j,g,vs,B1,e,f,x,s,u,v,rfl,?_⟩;intro a m i o M' b c d y z A C D q;exact⟨q.le hle p,⟨_,t,y,m,i,o,b,c,d,rfl,z,A,C,rfl⟩,D,q.fresh hle p⟩
theorem kz.obj {h0 h:Heap} {bm:Nat} {pre post:List Value} {M:cr} {B:List Nat} {x C:List Ob} {o:Ob} (F:kz h0 h bm pre post M B) (A:M.objs=x++o::C) :
  ∃ e c tm D vs q r t v Bi,h bm=some (.cells (pre++aR (.slice (some ⟨e,0,none⟩) M.objs.length c) D vs M++post).toArray tm (0,0)) /\
   h e=some (.cells (q++[.int .i64 o.cls,v]++r).toArray t (0,0))/\q.length=x.length*2/\dx h v o.bp Bi/\(∀ b∈Bi,b∈B/\b≠e)/\e∈B/\bm ∉ B /\
   ∀ m y,dx m v y Bi->(∀ b,b ∉ Bi->h b≠none->m b=h b)->∃ B',kz h0 m bm pre post {M with objs:=x++{o with bp:=y }::C} B'/\(∀ b,b∈bm::B'↔b∈bm::B):=by
 obtain⟨t,vo,D,vs,p,i,j,I,H,S,T,rfl,nV⟩:=F.whole;have nd:=F.nd;have W:=F.in;rw[A]at H;obtain⟨e,c,aa,q,r,t',R,Bi,rfl,_,J,Y,Mq,⟨v,rfl,ov⟩,z,RG⟩:=H.at kO;have X:M.objs.length=x.length+C.length+1:=by rw[A];simp;omega
 have f:∀ b∈Bi,b∈p/\b≠e/\b ∉ R/\b ∉ i/\b ∉ j/\b≠bm:=by
  intro b a;have G:=W_.2 a;have L:=z b;have g:=nd b;simp only[Y_,X_]at L g;refine⟨W_.1 O,?_,λd=>?_,λd=>?_,λd=>?_,?_⟩
  ·rintro rfl;simp at L;omega
  ·have:=W_.2 d;omega
  ·have:=W_.2 d;omega
  ·have:=W_.2 d;omega
  rintro rfl;simp at g;omega
 have K:e∈p:=(fL z e).2 Z;have V:bm ∉ p++i++j:=by
  intro d;have:=W_.2 d;have g:=nd bm;simp only[X_,beq_self_eq_true,if_true]at g;omega
 refine⟨e,c,t,D,vs,q,r,t',v,Bi,by rw[X];exact I,J,Y,ov,λb a=>⟨by simp[(f b a).1],(f b a).2.1⟩,by simp[K],V,?_⟩;intro m y k1 P;have w:∀ b,b∈bm::(p++i++j)->b ∉ Bi->m b=h b:=by
  intro b a g;obtain⟨o,A⟩:=W b a;exact P b g (by rw[A];simp)
 obtain⟨E,o1,o2⟩:=RG m [.int .i64 o.cls,v] {o with bp:=y } Bi (by rw[w e (by simp[K]) (λd=>(f _ d).2.1 rfl)];exact J) rfl ⟨v,rfl,k1⟩ (λb a Q u=>by
  rw[w b (by have:=(fL z b).2 (by simp[a]);simp[this]) (λd=>(f _ d).2.2.1 a)];exact u)
 have G:∀ s,(bm::(E++i++j)).count s=(bm::(p++i++j)).count s:=by
  intro s;have:=z s;have:=o2 s;simp only[Y_,X_]at *;omega
 have N:=fL G;refine⟨E++i++j,nV m _ D vs {M with objs:=x++{o with bp:=y }::C} E i j ?_ o1 ?_ ?_ (nd.perm G) ?_,N⟩
 ·rw[w bm Z (λd=>(f _ d).2.2.2.2.2 rfl)];exact I
 ·exact S.aK pN λb a Q u=>by rw[w b (by simp[a]) (λd=>(f _ d).2.2.2.1 a)];exact u
 ·exact T.aK λb a Q u=>by rw[w b (by simp[a]) (λd=>(f _ d).2.2.2.2.1 a)];exact u
 refine⟨λb a g=>P b (λd=>g (by have:=(f b d).1;simp[this])) a,λb a=>.inl ((N b).1 a)⟩
theorem tK {a:Type} (l:List a) {i:Nat} (b:i < l.length):l=l.take i++l[i]::l.drop (i+1):=by simp
def RH:Ob:=⟨0,[]⟩
def aM (l:List Ob) (n:Int):Ob:=l.getD (n-1).toNat RH
theorem wG {l:List Ob} {n:Int} {i:Nat} (a:i < l.length) (b:n=i+1):aM l n=l[i]:=by
 have:(n-1).toNat=i:=by omega
 simp[aM,this,a]
def qT (k:Int):Int:=if k=0 then -1 else -2
theorem GO (n:Int) (h:Heap) (a:n=0\/n=1\/n=2\/n=3\/n=4\/n=5\/n=6):Pure prog 242 [.int .u64 1,.int .u64 n] h (.tuple #[.int .u64 0,.int .u64 n]):=by
 rcases a with rfl|rfl|rfl|rfl|rfl|rfl|rfl;all_goals
  refine gF ax func242 Rn U rfl ?_;conv=>whnf
  repeat' ((first|refine zW ?_|refine de rfl rfl (λw=>rfl) (λw=>rfl) ?_)<;>conv=>whnf)
  exact⟨rfl,rfl⟩
theorem Cs (n:Int) (h:Heap) (a:n=0\/n=1\/n=2\/n=3\/n=4\/n=5\/n=6):Pure prog 211 [.int .u64 1,.int .u64 n] h (.tuple #[.int .u64 0,.int .u64 n]):=by
 refine gF ax func211 Q7 U rfl ?_;conv=>whnf
 refine au (GO n h a) ?_;conv=>whnf
 exact⟨rfl,rfl⟩
theorem Mr {k:IntKind} {x r:Int} {K:Int->Prop} (h:k.wrap x=r) (a:K r):Ar k x K:=zW (by rw[h];exact a)
theorem wrap_u64 {x:Int} (h0:0<=x) (a:x<=1000000):IntKind.u64.wrap x=x:=by
 simp[IntKind.wrap,IntKind.bits,IntKind.signed];omega
theorem wH (a b:Nat):Nat.min a b=min a b:=rfl
theorem Ea (t n:Int) (v:Value) (h:Heap) (D:Bu h v [t]) (P:0<=n/\n<=6) :
  bq prog 151 [v,.int .i64 n] h λv i=>h.le i/\∃ B,dM i v (List.replicate n.toNat t) B/\∀ b∈B,h b=none:=by
 obtain⟨_,_,I,J,rfl,K,E⟩:=D;have g:∃ b d,I=some ⟨b,d,none⟩/\dP h b d 1=some [.int .i64 t]:=by
  rcases E with c|⟨b,d,a,e⟩
  ·simp at c
  exact⟨b,d,a,by simpa [bD]using e⟩
 obtain⟨p,H,rfl,g⟩:=g;refine bE ax func151 Qn U rfl ?_;conv=>whnf
 refine bZ ?_;conv=>whnf
 refine Mr (r:=1) (wrap_u64 Z Z) ?_;conv=>whnf
 refine Mr (wrap_u64 O O) ?_;conv=>whnf
 refine au (Cs n h O) ?_;conv=>whnf
 refine bZ ?_;conv=>whnf
 refine av ?_;conv=>whnf
 refine ob ⟨rfl,O,by show(_:Int)*((8:Nat):Int)<=_;omega,O⟩ ?_;conv=>whnf
 refine new (λb f=>?_);conv=>whnf
 have hle:h.le (h.set b (.cells (List.replicate n.toNat [Value.int .i64 0]).flatten.toArray 3)):=Heap.aT (z_ h) f;have u:(h.set b (.cells (List.replicate n.toNat [Value.int .i64 0]).flatten.toArray 3)) b=some (.cells (List.replicate n.toNat (Value.int .i64 0)).toArray 3 (0,0)):=by
  rw[List.flatten_replicate_singleton];simp[Heap.set]
 refine zX (vs:=List.replicate (min 1 n.toNat) (.int .i64 t)) ax rfl rfl rfl rfl rfl (.inr ⟨p,H,rfl,?_⟩) u (by simp;omega) ?_ ?_
 ·by_cases s:n=0
  ·subst s;rfl
  have a:Nat.min (List.map bD [t]).length n.toNat=1:=by show min 1 n.toNat=1;omega
  have e:min 1 n.toNat=1:=by omega
  rw[a,e];exact dD hle g
 ·have:=cR (List.replicate (min 1 n.toNat) t);rwa [List.map_replicate]at this
 have x:∀ k:Nat,k<=n.toNat->∀ m,m<=k->k+m<=n.toNat->eH (List.replicate k (Value.int .i64 t)++List.replicate (n.toNat-k) (Value.int .i64 0)) k (List.replicate m (.int .i64 t))=List.replicate (k+m) (Value.int .i64 t)++List.replicate (n.toNat-(k+m)) (Value.int .i64 0):=by
  intro k y m N M;have:=fE (List.replicate m (Value.int .i64 t)) (List.replicate k (Value.int .i64 t)) (List.replicate (n.toNat-k) (Value.int .i64 0)) (by simp;omega);rw[List.length_replicate]at this;rw[this];simp only[List.length_replicate,List.drop_replicate,List.replicate_append_replicate];congr 2
  omega
 have w:eH (List.replicate n.toNat (Value.int .i64 0)) 0 (List.replicate (min 1 n.toNat) (.int .i64 t))=List.replicate (min 1 n.toNat) (Value.int .i64 t)++List.replicate (n.toNat-min 1 n.toNat) (Value.int .i64 0):=by
  have:=fE (List.replicate (min 1 n.toNat) (Value.int .i64 t)) [] (List.replicate n.toNat (Value.int .i64 0)) (by simp;omega);simpa [List.drop_replicate]using this
 rw[w,set_set];have A:((Nat.min (List.map bD [t]).length n.toNat:Nat):Int)=((min 1 n.toNat:Nat):Int):=by rw[wH];simp
 rw[A];conv=>whnf
 refine eF [7,8] [] (λk:Nat=>k<=n.toNat/\(0 < n->1<=k)) (λk=>n.toNat-k)
  (λk=>([.v (.slice (some ⟨b,0,none⟩) n.toNat n.toNat),.v (.int .i64 k)],[],h.set b (.cells (List.replicate k (Value.int .i64 t)++List.replicate (n.toNat-k) (Value.int .i64 0)).toArray 3))) (min 1 n.toNat) ⟨O,O⟩ rfl ?_
 rintro k ⟨y,L⟩;conv=>whnf
 apply aC<;>intro q;all_goals conv=>whnf
 ·have o:k < n.toNat:=by omega
  have j:(h.set b (.cells (List.replicate k (Value.int .i64 t)++List.replicate (n.toNat-k) (Value.int .i64 0)).toArray 3)) b=some (.cells (List.replicate k (Value.int .i64 t)++List.replicate (n.toNat-k) (Value.int .i64 0)).toArray 3 (0,0)):=by simp[Heap.set]
  refine ay ?_;conv=>whnf
  refine sub (λG F Q=>?_);have C:G=some ⟨b,k,none⟩:=by rw[F O];simp[iV]
  subst C;conv=>whnf
  refine ay ?_;conv=>whnf
  refine zX (vs:=List.replicate (min k (n.toNat-k)) (.int .i64 t)) ax rfl rfl rfl rfl rfl (.inr ⟨b,0,rfl,?_⟩) j (by simp;omega) ?_ ?_
  ·have a:Nat.min (k:Int).toNat (n.toNat-(k:Int).toNat)=min k (n.toNat-k):=by rw[wH];simp
   rw[a];show dP _ b 0 (min k (n.toNat-k)*1)=_;rw[Nat.mul_one,bA j _ _ (by simp;omega),List.drop_zero,List.take_append_of_le_length (by simp;omega),List.take_replicate];congr 2;omega
  ·have:=cR (List.replicate (min k (n.toNat-k)) t);rwa [List.map_replicate]at this
  rw[x k O _ O O,set_set];have z:((Nat.min (k:Int).toNat (n.toNat-(k:Int).toNat):Nat):Int)=((min k (n.toNat-k):Nat):Int):=by rw[wH,Int.toNat_natCast]
  rw[z];conv=>whnf
  refine av ?_;conv=>whnf
  refine cL (k+min k (n.toNat-k)) ⟨O,O⟩ O rfl
 have o:k=n.toNat:=by omega
 subst o;refine⟨Heap.aT (z_ h) f,[b],jV (t:=3) (λR c=>by simp only[List.map_replicate]at c;rw[List.eq_of_mem_replicate c];rfl) Z ?_,by simpa using f⟩;simp[Heap.set,dj,List.map_replicate,bD]
def nothing (t:Int):Vl:=⟨!decide (t=1),0⟩
def dy:Vl:=⟨false,0⟩
abbrev tn:=Except Int (List Ob × cJ)
def ey (objs:List Ob) (f:cJ) (v:Vl):tn:=if f.stack.length < 4 then .ok (objs,{f with stack:=f.stack++[v]})else .error 0
def uM (k:Int) (types:List Int) (objs:List Ob) (f:cJ):tn:=ey (objs++[⟨k,types.map nothing⟩]) f ⟨true,objs.length+1⟩
def eZ (objs:List Ob) (n:Int) (a:Bool):Except Int Ob:=if 0 < n/\a=false then .error 0 else if n=0 then .error 2 else .ok (aM objs n)
def putAt (l:List Vl) (i:Int) (v:Vl):List Vl:=l.set i.toNat v
def gU (objs:List Ob) (n:Int) (bp:List Vl):List Ob:=objs.set (n-1).toNat {aM objs n with bp:=bp}
def oJ (objs:List Ob) (x:Vl) (k n:Int):Except Int Ob :=
 match eZ objs x.n (decide ((aM objs x.n).cls=qT k))with
 | .error e=>.error e
 | .ok o=>if 0<=n/\n < o.bp.length then .ok o else .error 3
def gr (u:aI) (x:dc) (c:List Vl) (objs:List Ob) (f:cJ):tn :=
 let a:=c.getD 0 dy
 let b:=c.getD 1 dy
 let d:=c.getD 2 dy
 if x.kind=12 then uM x.a (bV u.ak x.a) objs f
 else if x.kind=13 then (if 0<=a.n/\a.n<=6 then uM (qT x.a) (List.replicate a.n.toNat (if x.a=0 then 1 else 8)) objs f else .error 4)
 else if x.kind=14 then (match eZ objs a.n (decide ((aM objs a.n).cls < 0))with
  | .error e=>.error e
  | .ok o=>ey objs f ⟨false,o.bp.length⟩)
 else if x.kind=15 then (match oJ objs a x.a b.n with
  | .error e=>.error e
  | .ok o=>ey objs f (o.bp.getD b.n.toNat dy))
 else if x.kind=16 then (match oJ objs a x.a b.n with
  | .error e=>.error e
  | .ok o=>.ok (gU objs a.n (putAt o.bp b.n d),f))
 else if x.kind=17 then (match eZ objs a.n (up u.ak (aM objs a.n).cls x.a)with
  | .error e=>.error e
  | .ok o=>ey objs f (o.bp.getD x.b.toNat dy))
 else if x.kind=18 then (match eZ objs a.n (up u.ak (aM objs a.n).cls x.a)with
  | .error e=>.error e
  | .ok o=>.ok (gU objs a.n (putAt o.bp x.b b),f))
 else if x.kind=19 then (if 0 < a.n/\dQ u.ak (typeOf (aM objs a.n).cls) (8+x.a)=false then .error 5 else ey objs f a)
 else .ok (objs,f)
theorem jg {objs:List Ob} {n:Int} {a:Bool} (c:0 < n) (b:a=true):eZ objs n a=.ok (aM objs n):=by
 subst b;simp[eZ];omega
theorem jx {objs:List Ob} {n:Int} {a:Bool} (b:0 < n) (c:a=false):eZ objs n a=.error 0:=by
 subst c;simp[eZ,b]
theorem jy {objs:List Ob} {n:Int} {b:Bool} (a:n=0):eZ objs n b=.error 2:=by
 subst a;simp[eZ]
theorem GP {objs:List Ob} {x:Vl} {k n:Int} (a:0 < x.n) (b:(aM objs x.n).cls=qT k) (c:0<=n/\n < (aM objs x.n).bp.length):oJ objs x k n=.ok (aM objs x.n):=by
 unfold oJ;rw[jg a (by simp[b])];simp[c]
theorem Eb {objs:List Ob} {x:Vl} {k n:Int} (a:0 < x.n) (b:(aM objs x.n).cls≠qT k):oJ objs x k n=.error 0:=by
 unfold oJ;rw[jx a (by simp[b])]
theorem Ec {objs:List Ob} {x:Vl} {k n:Int} (a:x.n=0):oJ objs x k n=.error 2:=by
 unfold oJ;rw[jy a]
theorem Ad {objs:List Ob} {x:Vl} {k n:Int} (a:0 < x.n) (b:(aM objs x.n).cls=qT k) (c:¬(0<=n/\n < (aM objs x.n).bp.length)):oJ objs x k n=.error 3:=by
 unfold oJ;rw[jg a (by simp[b])];simp only;rw[if_neg c]
theorem mM {pre x x' post:List Value} {n:Nat} (b:n=pre.length) (a:x'.length=x.length):eH (pre++x++post) n x'=pre++x'++post:=by
 subst b;rw[List.append_assoc,fE x' pre (x++post) (by simp;omega),a,List.drop_left]
def Ed (u:aI) (x:dc) (b:List Vl) (n:Nat):Prop :=
 (x.kind=13->∃ a,b=[a])/\(x.kind=14->∃ a,b=[a]/\a.ref=true)/\(x.kind=15->∃ a c,b=[a,c]/\a.ref=true)/\(x.kind=16->∃ a c d,b=[a,c,d]/\a.ref=true) /\
  (x.kind=17->∃ a,b=[a]/\a.ref=true)/\(x.kind=18->∃ a c,b=[a,c]/\a.ref=true)/\(x.kind=19->∃ a,b=[a]/\a.ref=true)/\∀ v∈b,v.ref=true->0<=v.n/\v.n<=n
theorem wI {cs:List dB} (ok:bX cs):∀(k:Nat) {a b:Int},a.toNat < k->a < cs.length->up cs a b=true->(bV cs b).length<=(bV cs a).length
 | 0,a,b,h,_,_=>by omega
 | k+1,a,b,h,hl,hu=>by
  by_cases c:0<=a
  ·rw[fK ok c hl]at hu;by_cases d:a=b
   ·subst d;exact Nat.le_refl _
   have f:=ok.bJ c hl;simp only[d,decide_false,Bool.false_or]at hu;by_cases e:0 < a
   ·have:=wI ok k (a:=bB cs a) (b:=b) O O hu;rw[jf ok e hl,U_];omega
   rw[oG O]at hu;cases hu
  rw[oG O]at hu;cases hu
theorem bY.put {h:Heap} {p:Option Addr} {n c:Nat} {l:List Vl} {B:List Nat} (d:dx h (.slice p n c) l B) {i:Nat} (f:i < l.length) :
  ∃ b pre x post t,p=some ⟨b,0,none⟩/\n=l.length/\h b=some (.cells (pre++x++post).toArray t (0,0))/\pre.length=i*2/\x=dO l[i]/\B=[b] /\
   ∀ a v,a b=some (.cells (pre++dO v++post).toArray t (0,0))->dx a (.slice p n c) (l.set i v) B:=by
 have o:l.map dO=(l.take i).map dO++dO l[i]::(l.drop (i+1)).map dO:=by
  have:=congrArg (List.map dO) (tK l f);simpa only[List.map_append,List.map_cons]using this
 unfold dx at d;rw[o]at d;obtain⟨b,u,pre,post,t,e,j,q,w,g,s⟩:=d.at;simp only[Z_]at e;obtain⟨rfl,rfl,rfl⟩:=e;refine⟨b,pre,dO l[i],post,t,rfl,?_,j,?_,rfl,g,λa v m=>?_⟩
 ·simp;omega
 ·rw[q];simp;omega
 have:=s a (dO v) m rfl;unfold dx;rw[List.set_eq_take_append_cons_drop,if_pos f,List.map_append,List.map_cons];exact this
theorem cY (h:Heap) (b:Nat) (o:Obj):(h.set b o) b=some o:=by simp[Heap.set]
theorem cZ {h:Heap} {cs:List Value} {t:TypeId} {K:Nat->Heap->Prop} (c:List Value) (e:cs=c) (f:∀ b a,h b=none->a=h.set b (.cells c.toArray t)->h.le a->a b=some (.cells c.toArray t (0,0))->K b a):zB h cs t K:=by
 subst e;exact new λb d=>f b _ d rfl (Heap.aT (z_ h) d) (cY _ _ _)
theorem bY.two {h:Heap} {p:Option Addr} {n c:Nat} {l:List Vl} {B:List Nat} (e:dx h (.slice p n c) l B) {i:Nat} (j:i < l.length):∃ b,p=some ⟨b,0,none⟩/\dP h b (0+i*2) 2=some (dO l[i])/\rd h b (0+i*2+1)=some (.int .i64 l[i].n)/\B=[b]/\n=l.length:=by
 obtain⟨_,_,d,_⟩:=e.form;simp only[Z_]at d;obtain⟨b,f,a,g⟩:=e.nth (i:=i) (by simpa using j);rw[List.getElem_map]at a;exact⟨b,f,a,aJ a (i:=1) rfl,g,by have:=d.2.1;simpa using this⟩
theorem lT {cs:List dB} {a b:Int} (h:up cs a b=true):0<=a:=by
 rcases Int.lt_or_le a 0 with c|c
 ·rw[oG c]at h;cases h
 exact c
theorem wJ {l:List Vl} {i:Nat} (a:i < l.length):l.getD i dy=l[i]:=by simp[a]
def wK (_:Heap) (x:List Value) (a:Int) (B:List Nat):Prop:=x=bD a/\B=[]
theorem ID:Kept wK:=λ_ _ _ _ _ _ h=>h
theorem Xl:GM wK:=λ_ _ _ _ h b a=>by rw[h.2]at a;cases a
theorem IE {h:Heap}:∀ l:List Int,Rows wK h (l.map bD) l []
 | []=>.nil
 | a::l=>by have:=Rows.cons (R:=wK) (h:=h) (x:=bD a) (a:=a) (B1:=[]) ⟨rfl,rfl⟩ (IE l);simpa using this
theorem Ee {h:Heap} {v:Value} {l:List Int} {B:List Nat} (a:dM h v l B):ep wK 1 h v l B:=⟨_,B,[],a,IE l,Z⟩
theorem Ct {h:Heap} {xs:List (List Value)} {l:List Int} {B:List Nat} (b:Rows wK h xs l B):xs=l.map bD/\B=[]:=by
 induction b with
 | nil=>exact⟨rfl,rfl⟩
 | cons a _ c=>obtain⟨rfl,rfl⟩:=a;obtain⟨rfl,rfl⟩:=c;exact⟨rfl,rfl⟩
theorem Ef {h:Heap} {v:Value} {l:List Int} {B:List Nat} (c:ep wK 1 h v l B):dM h v l B:=by
 obtain⟨f,d,e,a,b,rfl⟩:=c;obtain⟨rfl,rfl⟩:=Ct b;simpa using a
theorem kz.Ms {h0 h:Heap} {bm:Nat} {pre post:List Value} {M:cr} {B:List Nat} (C:kz h0 h bm pre post M B) (hl:M.objs.length<=1000) :
  ∃ t p c q vs,h bm=some (.cells (pre++aR (.slice p M.objs.length c) q vs M++post).toArray t (0,0)) /\
   ∀ {bytes:Nat} {zero:List Value} {Q:TypeId} {J:Nat} (a:Ob) (i:List Nat) (y:List Value) (K:Value->Heap->Prop),kN h y a i->Nd i->(∀ b∈i,b ∉ bm::B/\h0 b=none)->J=1->y.length=2->dI y=true->zero.length=2->bytes<=1000 ->
    (∀ w u m,m bm=h bm->(∀ b,b ∉ B->b ∉ i->h b≠none->m b=h b)->h0.le m->(∃ B',kz h0 (m.set bm (.cells (pre++aR (.slice w (M.objs.length+1) u) q vs M++post).toArray t (0,0))) bm pre post {M with objs:=M.objs++[a]} B' /\
     Ev h (m.set bm (.cells (pre++aR (.slice w (M.objs.length+1) u) q vs M++post).toArray t (0,0))) ((bm::B)++i) (bm::B'))->K (.slice w (M.objs.length+1) u) m)->App bytes 2 zero Q h p M.objs.length c J y K:=by
 have nd:=C.nd;have oh:=C.in;have hle:=C.le;have I:=C.fr;obtain⟨t,vo,q,vs,j,f,g,H,S,h2,h3,rfl,nV⟩:=C.whole;obtain⟨p,c,rfl,hc⟩:=S.form;refine⟨t,p,c,q,vs,H,?_⟩;intro bytes zero Q J a i y K k1 k2 V k4 k5 k6 k7 k8 k9;have z:∀ b∈i,b ∉ j/\b ∉ f/\b ∉ g/\b≠bm:=by
  intro b e;have:=V b e;simp at this;grind
 have T:∀ b∈j,b ∉ f/\b ∉ g/\b≠bm:=by
  intro b e;have hp:=W_.2 e;have v:=nd b;simp only[Y_,X_]at v;refine⟨λd=>?_,λd=>?_,?_⟩
  ·have:=W_.2 d;omega
  ·have:=W_.2 d;omega
  rintro rfl;simp at v;omega
 have E:bm ∉ j++f++g:=by
  intro d;have:=W_.2 d;have v:=nd bm;simp only[X_,beq_self_eq_true,if_true]at v;omega
 have Eg:Nd (j++f++g):=nd.less λa=>by simp only[X_];omega
 have Eh:Nd (j++i):=by
  have:=Nd.swap (A:=j) (X:=f++g) (X':=i) (Eg.perm λa=>by simp only[Y_];omega) k2 (λb e=>.inr (by have:=z b e;grind));exact this
 refine mL kO xJ (h0:=h0) S k1 Eh (λb e=>?_) hle k4 k5 k6 k7 (by have:=Nat.mul_le_mul (show M.objs.length+1<=1001 by omega) k8;omega) O ?_
 ·rcases u_.1 e with e|e
  ·exact I b (by simp[e])
  exact(V b e).2
 intro v' m s R G g3 g4 D;obtain⟨w,u,rfl,_⟩:=G.form;have hlen:(M.objs++[a]).length=M.objs.length+1:=by simp
 rw[hlen]at G ⊢;have same:∀ b,b ∉ j->b ∉ i->h b≠none->m b=h b:=λb L N P=>D.sr b P (by simp[L,N]);have e1:m bm=h bm:=same bm (λd=>E (by simp[d])) (λd=>(z _ d).2.2.2 rfl) (by rw[H];simp);refine k9 w u m e1 (λb L N P=>same b (λd=>L (by simp[d])) N P) R ?_;have Mt:bm ∉ s:=by
  intro d;rcases D.new bm d with o|o
  ·rcases u_.1 o with o|o
   ·exact E (by simp[o])
   exact(z _ o).2.2.2 rfl
  rw[H]at o;cases o
 have W:∀ F:List Nat,(∀ b∈F,b≠bm/\b ∉ j/\b ∉ i)->cS h (m.set bm (.cells (pre++aR (.slice w (M.objs.length+1) u) q vs M++post).toArray t (0,0))) F:=by
  intro F hC b e Y x;have:=hC b e;simp only[Heap.set,this.1,if_false];rw[same b this.2.1 this.2.2 (by rw[x];simp)];exact x
 have d0:∀ b∈f,b≠bm/\b ∉ j/\b ∉ i:=λb e=>⟨λd=>E (by simp[<-d,e]),λd=>by have:=T b d;grind,λd=>by have:=z b d;grind⟩
 have d1:∀ b∈g,b≠bm/\b ∉ j/\b ∉ i:=λb e=>⟨λd=>E (by simp[<-d,e]),λd=>by have:=T b d;grind,λd=>by have:=z b d;grind⟩
 have GQ:Ev h (m.set bm (.cells (pre++aR (.slice w (M.objs.length+1) u) q vs M++post).toArray t (0,0))) ((bm::(j++f++g))++i) (bm::(s++f++g)):=by
  refine⟨λb e v=>?_,λb e=>?_⟩
  ·have:b≠bm:=λd=>v (by simp[d]);simp only[Heap.set,this,if_false];exact same b (λd=>v (by simp[d])) (λd=>v (by simp[d])) e
  have:b∈s\/b∈bm::(f++g):=by simp at e ⊢;grind
  rcases this with d|d
  ·exact(D.new b d).imp (λo=>by simp at o ⊢;grind) id
  exact .inl (by simp at d ⊢;grind)
 have Ei:Nd (bm::(s++f++g)):=by
  have:=Nd.swap (A:=bm::(f++g)) (X:=j) (X':=s) (nd.perm λa=>by simp only[Y_,X_];omega) g3 (λb e=>?_)
  ·exact this.perm λa=>by simp only[Y_,X_];omega
  rcases D.new b e with d|d
  ·rcases u_.1 d with d|d
   ·exact .inl d
   have:=z b d;exact .inr (by simp;grind)
  refine .inr λo=>?_;obtain⟨Y,x⟩:=oh b (by simp at o ⊢;grind);rw[d]at x;cases x
 refine⟨s++f++g,⟨Heap.aT R (I bm Z),⟨aR (.slice w (M.objs.length+1) u) q vs M,t,by simp[Heap.set],_,q,vs,s,f,g,rfl,?_,?_,?_,rfl⟩,Ei,?_⟩,GQ⟩
 ·refine G.aK kO λb e Y x=>?_;have:b≠bm:=by rintro rfl;exact Mt e
  simp only[Heap.set,this,if_false];exact x
 ·exact h2.aK pN (W f d0)
 ·exact h3.aK (W g d1)
 intro b e;have:b∈s\/b∈bm::(j++f++g):=by simp at e ⊢;grind
 rcases this with d|d
 ·exact g4 b d
 exact I b d
theorem kz.yA {h0 h:Heap} {bm:Nat} {pre post:List Value} {M:cr} {B:List Nat} (C:kz h0 h bm pre post M B) (hl:M.aq.length<=1000) :
  ∃ t p c q vs,h bm=some (.cells (pre++aR q (.slice p M.aq.length c) vs M++post).toArray t (0,0)) /\
   ∀ {bytes:Nat} {zero:List Value} {Q:TypeId} {J:Nat} (a:cJ) (i:List Nat) (y:List Value) (K:Value->Heap->Prop),nU h y a i->Nd i->(∀ b∈i,b ∉ bm::B/\h0 b=none)->J=1->y.length=4->dI y=true->zero.length=4->bytes<=1000 ->
    (∀ w u m,m bm=h bm->(∀ b,b ∉ B->b ∉ i->h b≠none->m b=h b)->h0.le m->(∃ B',kz h0 (m.set bm (.cells (pre++aR q (.slice w (M.aq.length+1) u) vs M++post).toArray t (0,0))) bm pre post {M with aq:=M.aq++[a]} B' /\
     Ev h (m.set bm (.cells (pre++aR q (.slice w (M.aq.length+1) u) vs M++post).toArray t (0,0))) ((bm::B)++i) (bm::B'))->K (.slice w (M.aq.length+1) u) m)->App bytes 4 zero Q h p M.aq.length c J y K:=by
 have nd:=C.nd;have oh:=C.in;have hle:=C.le;have I:=C.fr;obtain⟨t,q,vf,vs,f,j,g,H,h1,S,h3,rfl,nV⟩:=C.whole;obtain⟨p,c,rfl,hc⟩:=S.form;refine⟨t,p,c,q,vs,H,?_⟩;intro bytes zero Q J a i y K k1 k2 V k4 k5 k6 k7 k8 k9;have z:∀ b∈i,b ∉ f/\b ∉ j/\b ∉ g/\b≠bm:=by
  intro b e;have:=V b e;simp at this;grind
 have T:∀ b∈j,b ∉ f/\b ∉ g/\b≠bm:=by
  intro b e;have hp:=W_.2 e;have v:=nd b;simp only[Y_,X_]at v;refine⟨λd=>?_,λd=>?_,?_⟩
  ·have:=W_.2 d;omega
  ·have:=W_.2 d;omega
  rintro rfl;simp at v;omega
 have E:bm ∉ f++j++g:=by
  intro d;have:=W_.2 d;have v:=nd bm;simp only[X_,beq_self_eq_true,if_true]at v;omega
 have Eg:Nd (f++j++g):=nd.less λa=>by simp only[X_];omega
 have Eh:Nd (j++i):=by
  have:=Nd.swap (A:=j) (X:=f++g) (X':=i) (Eg.perm λa=>by simp only[Y_];omega) k2 (λb e=>.inr (by have:=z b e;grind));exact this
 refine mL pN OI (h0:=h0) S k1 Eh (λb e=>?_) hle k4 k5 k6 k7 (by have:=Nat.mul_le_mul (show M.aq.length+1<=1001 by omega) k8;omega) O ?_
 ·rcases u_.1 e with e|e
  ·exact I b (by simp[e])
  exact(V b e).2
 intro v' m s R G g3 g4 D;obtain⟨w,u,rfl,_⟩:=G.form;have hlen:(M.aq++[a]).length=M.aq.length+1:=by simp
 rw[hlen]at G ⊢;have same:∀ b,b ∉ j->b ∉ i->h b≠none->m b=h b:=λb L N P=>D.sr b P (by simp[L,N]);have e1:m bm=h bm:=same bm (λd=>E (by simp[d])) (λd=>(z _ d).2.2.2 rfl) (by rw[H];simp);refine k9 w u m e1 (λb L N P=>same b (λd=>L (by simp[d])) N P) R ?_;have Mt:bm ∉ s:=by
  intro d;rcases D.new bm d with o|o
  ·rcases u_.1 o with o|o
   ·exact E (by simp[o])
   exact(z _ o).2.2.2 rfl
  rw[H]at o;cases o
 have W:∀ F:List Nat,(∀ b∈F,b≠bm/\b ∉ j/\b ∉ i)->cS h (m.set bm (.cells (pre++aR q (.slice w (M.aq.length+1) u) vs M++post).toArray t (0,0))) F:=by
  intro F hC b e Y x;have:=hC b e;simp only[Heap.set,this.1,if_false];rw[same b this.2.1 this.2.2 (by rw[x];simp)];exact x
 have d0:∀ b∈f,b≠bm/\b ∉ j/\b ∉ i:=λb e=>⟨λd=>E (by simp[<-d,e]),λd=>by have:=T b d;grind,λd=>by have:=z b d;grind⟩
 have d1:∀ b∈g,b≠bm/\b ∉ j/\b ∉ i:=λb e=>⟨λd=>E (by simp[<-d,e]),λd=>by have:=T b d;grind,λd=>by have:=z b d;grind⟩
 have GQ:Ev h (m.set bm (.cells (pre++aR q (.slice w (M.aq.length+1) u) vs M++post).toArray t (0,0))) ((bm::(f++j++g))++i) (bm::(f++s++g)):=by
  refine⟨λb e v=>?_,λb e=>?_⟩
  ·have:b≠bm:=λd=>v (by simp[d]);simp only[Heap.set,this,if_false];exact same b (λd=>v (by simp[d])) (λd=>v (by simp[d])) e
  have:b∈s\/b∈bm::(f++g):=by simp at e ⊢;grind
  rcases this with d|d
  ·exact(D.new b d).imp (λo=>by simp at o ⊢;grind) id
  exact .inl (by simp at d ⊢;grind)
 have Ei:Nd (bm::(f++s++g)):=by
  have:=Nd.swap (A:=bm::(f++g)) (X:=j) (X':=s) (nd.perm λa=>by simp only[Y_,X_];omega) g3 (λb e=>?_)
  ·exact this.perm λa=>by simp only[Y_,X_];omega
  rcases D.new b e with d|d
  ·rcases u_.1 d with d|d
   ·exact .inl d
   have:=z b d;exact .inr (by simp;grind)
  refine .inr λo=>?_;obtain⟨Y,x⟩:=oh b (by simp at o ⊢;grind);rw[d]at x;cases x
 refine⟨f++s++g,⟨Heap.aT R (I bm Z),⟨aR q (.slice w (M.aq.length+1) u) vs M,t,by simp[Heap.set],q,_,vs,f,s,g,rfl,?_,?_,?_,rfl⟩,Ei,?_⟩,GQ⟩
 ·exact h1.aK kO (W f d0)
 ·refine G.aK pN λb e Y x=>?_;have:b≠bm:=by rintro rfl;exact Mt e
  simp only[Heap.set,this,if_false];exact x
 ·exact h3.aK (W g d1)
 intro b e;have:b∈s\/b∈bm::(f++j++g):=by simp at e ⊢;grind
 rcases this with d|d
 ·exact g4 b d
 exact I b d
theorem kz.Mu {h0 h:Heap} {bm:Nat} {pre post:List Value} {M:cr} {B:List Nat} (D:kz h0 h bm pre post M B) (hl:M.said.length<=1000) :
  ∃ t p c s q,h bm=some (.cells (pre++aR s q (.slice p M.said.length c) M++post).toArray t (0,0)) /\
   ∀ {bytes:Nat} {zero:List Value} {S:TypeId} {N:Nat} (a:Int) (j:List Nat) (y:List Value) (K:Value->Heap->Prop),wK h y a j->Nd j->(∀ b∈j,b ∉ bm::B/\h0 b=none)->N=1->y.length=1->dI y=true->zero.length=1->bytes<=1000 ->
    (∀ x v m,m bm=h bm->(∀ b,b ∉ B->b ∉ j->h b≠none->m b=h b)->h0.le m->(∃ B',kz h0 (m.set bm (.cells (pre++aR s q (.slice x (M.said.length+1) v) M++post).toArray t (0,0))) bm pre post {M with said:=M.said++[a]} B' /\
     Ev h (m.set bm (.cells (pre++aR s q (.slice x (M.said.length+1) v) M++post).toArray t (0,0))) ((bm::B)++j) (bm::B'))->K (.slice x (M.said.length+1) v) m)->App bytes 1 zero S h p M.said.length c N y K:=by
 have nd:=D.nd;have oh:=D.in;have hle:=D.le;have L:=D.fr;obtain⟨t,s,q,vs,f,g,i,J,h1,h2,F,rfl,nV⟩:=D.whole;have F:ep wK 1 h vs M.said i:=Ee F;obtain⟨p,c,rfl,hc⟩:=F.form;refine⟨t,p,c,s,q,J,?_⟩;intro bytes zero S N a j y K k1 k2 W k4 k5 k6 k7 k8 k9;have C:∀ b∈j,b ∉ f/\b ∉ g/\b ∉ i/\b≠bm:=by
  intro b e;have:=W b e;simp at this;grind
 have V:∀ b∈i,b ∉ f/\b ∉ g/\b≠bm:=by
  intro b e;have hp:=W_.2 e;have w:=nd b;simp only[Y_,X_]at w;refine⟨λd=>?_,λd=>?_,?_⟩
  ·have:=W_.2 d;omega
  ·have:=W_.2 d;omega
  rintro rfl;simp at w;omega
 have G:bm ∉ f++g++i:=by
  intro d;have:=W_.2 d;have w:=nd bm;simp only[X_,beq_self_eq_true,if_true]at w;omega
 have Eg:Nd (f++g++i):=nd.less λa=>by simp only[X_];omega
 have Eh:Nd (i++j):=by
  have:=Nd.swap (A:=i) (X:=f++g) (X':=j) (Eg.perm λa=>by simp only[Y_];omega) k2 (λb e=>.inr (by have:=C b e;grind));exact this
 refine mL ID Xl (h0:=h0) F k1 Eh (λb e=>?_) hle k4 k5 k6 k7 (by have:=Nat.mul_le_mul (show M.said.length+1<=1001 by omega) k8;omega) O ?_
 ·rcases u_.1 e with e|e
  ·exact L b (by simp[e])
  exact(W b e).2
 intro v' m u T I g3 g4 E;obtain⟨x,v,rfl,_⟩:=I.form;have hlen:(M.said++[a]).length=M.said.length+1:=by simp
 rw[hlen]at I ⊢;have same:∀ b,b ∉ i->b ∉ j->h b≠none->m b=h b:=λb P Q R=>E.sr b R (by simp[P,Q]);have e1:m bm=h bm:=same bm (λd=>G (by simp[d])) (λd=>(C _ d).2.2.2 rfl) (by rw[J];simp);refine k9 x v m e1 (λb P Q R=>same b (λd=>P (by simp[d])) Q R) T ?_;have Mt:bm ∉ u:=by
  intro d;rcases E.new bm d with o|o
  ·rcases u_.1 o with o|o
   ·exact G (by simp[o])
   exact(C _ o).2.2.2 rfl
  rw[J]at o;cases o
 have Y:∀ H:List Nat,(∀ b∈H,b≠bm/\b ∉ i/\b ∉ j)->cS h (m.set bm (.cells (pre++aR s q (.slice x (M.said.length+1) v) M++post).toArray t (0,0))) H:=by
  intro H hC b e aa z;have:=hC b e;simp only[Heap.set,this.1,if_false];rw[same b this.2.1 this.2.2 (by rw[z];simp)];exact z
 have d0:∀ b∈f,b≠bm/\b ∉ i/\b ∉ j:=λb e=>⟨λd=>G (by simp[<-d,e]),λd=>by have:=V b d;grind,λd=>by have:=C b d;grind⟩
 have d1:∀ b∈g,b≠bm/\b ∉ i/\b ∉ j:=λb e=>⟨λd=>G (by simp[<-d,e]),λd=>by have:=V b d;grind,λd=>by have:=C b d;grind⟩
 have GQ:Ev h (m.set bm (.cells (pre++aR s q (.slice x (M.said.length+1) v) M++post).toArray t (0,0))) ((bm::(f++g++i))++j) (bm::(f++g++u)):=by
  refine⟨λb e w=>?_,λb e=>?_⟩
  ·have:b≠bm:=λd=>w (by simp[d]);simp only[Heap.set,this,if_false];exact same b (λd=>w (by simp[d])) (λd=>w (by simp[d])) e
  have:b∈u\/b∈bm::(f++g):=by simp at e ⊢;grind
  rcases this with d|d
  ·exact(E.new b d).imp (λo=>by simp at o ⊢;grind) id
  exact .inl (by simp at d ⊢;grind)
 have Ei:Nd (bm::(f++g++u)):=by
  have:=Nd.swap (A:=bm::(f++g)) (X:=i) (X':=u) (nd.perm λa=>by simp only[Y_,X_];omega) g3 (λb e=>?_)
  ·exact this.perm λa=>by simp only[Y_,X_];omega
  rcases E.new b e with d|d
  ·rcases u_.1 d with d|d
   ·exact .inl d
   have:=C b d;exact .inr (by simp;grind)
  refine .inr λo=>?_;obtain⟨aa,z⟩:=oh b (by simp at o ⊢;grind);rw[d]at z;cases z
 refine⟨f++g++u,⟨Heap.aT T (L bm Z),⟨aR s q (.slice x (M.said.length+1) v) M,t,by simp[Heap.set],s,q,_,f,g,u,rfl,?_,?_,?_,rfl⟩,Ei,?_⟩,GQ⟩
 ·exact h1.aK kO (Y f d0)
 ·exact h2.aK pN (Y g d1)
 ·refine Ef (?_);refine I.aK ID λb e aa z=>?_;have:b≠bm:=by rintro rfl;exact Mt e
  simp only[Heap.set,this,if_false];exact z
 intro b e;have:b∈u\/b∈bm::(f++g++i):=by simp at e ⊢;grind
 rcases this with d|d
 ·exact g4 b d
 exact L b d
theorem kz.IF {h0 h:Heap} {bm:Nat} {pre post:List Value} {M M':cr} {B B':List Nat} {t:TypeId} {mc:List Value} (d:kz h0 h bm pre post M B) (f:gZ h mc M' B') (e:∀ a,B'.count a<=B.count a) :
  kz h0 (h.set bm (.cells (pre++mc++post).toArray t (0,0))) bm pre post M' B'/\Ev h (h.set bm (.cells (pre++mc++post).toArray t (0,0))) (bm::B) (bm::B'):=by
 have i:∀ b,b∈bm::B'->b∈bm::B:=by
  intro b c;have:=W_.2 c;refine W_.1 ?_;have:=e b;simp only[X_]at *;omega
 have o:bm ∉ B':=by
  intro g;have p:=W_.2 g;have q:=e bm;have j:=d.nd bm;simp only[X_,beq_self_eq_true,if_true]at j;omega
 refine⟨⟨Heap.aT d.le (d.fr bm Z),⟨mc,t,cY _ _ _,f.aK λb c s f=>?_⟩,d.nd.less λa=>by have:=e a;simp only[X_];omega,λb c=>d.fr b (i b c)⟩,⟨λb c m=>?_,λb c=>.inl (i b c)⟩⟩
 ·have:b≠bm:=by rintro rfl;exact o c
  simp only[Heap.set,this,if_false];exact f
 have:b≠bm:=λg=>m (by simp[g]);simp only[Heap.set,this,if_false]
theorem kz.Mv {h0 h:Heap} {bm:Nat} {pre post:List Value} {M:cr} {B:List Nat} {fs:List cJ} {f:cJ} (i:kz h0 h bm pre post M B) (w:M.aq=fs++[f]) :
  ∃ t p c a vs,h bm=some (.cells (pre++aR a (.slice p (fs.length+1) c) vs M++post).toArray t (0,0))/\fs.length+1<=c /\
   ∃ B',kz h0 (h.set bm (.cells (pre++aR a (.slice p fs.length c) vs M++post).toArray t (0,0))) bm pre post {M with aq:=fs} B'/\Ev h (h.set bm (.cells (pre++aR a (.slice p fs.length c) vs M++post).toArray t (0,0))) (bm::B) (bm::B'):=by
 obtain⟨t,a,D,vs,d,z,g,j,q,b,u,rfl,C⟩:=i.whole;rw[w]at b;obtain⟨p,c,rfl,m⟩:=b.form;obtain⟨A,e,s,v⟩:=b.pop;have x:(fs++[f]).length=fs.length+1:=by simp
 rw[x]at j m;have y:=i.IF (M':={M with aq:=fs}) (mc:=aR a (.slice p fs.length c) vs M) (t:=t) (B':=d++e++g) ⟨a,_,vs,d,e,g,rfl,q,s,u,rfl⟩ (λo=>by have:=v o;simp only[Y_];omega);exact⟨t,p,c,a,vs,j,m,_,y⟩
theorem kz.ints {h0 h:Heap} {bm:Nat} {pre post:List Value} {M:cr} {B:List Nat} (i:kz h0 h bm pre post M B) :
  ∃ t b a vs,h bm=some (.cells (pre++aR b a vs M++post).toArray t (0,0))/\(∃ p c,b=.slice p M.objs.length c)/\(∃ p c,a=.slice p M.aq.length c)/\(∃ p c,vs=.slice p M.said.length c) /\
   ∀ M':cr,M'.objs=M.objs->M'.aq=M.aq->M'.said=M.said ->
    kz h0 (h.set bm (.cells (pre++aR b a vs M'++post).toArray t (0,0))) bm pre post M' B/\Ev h (h.set bm (.cells (pre++aR b a vs M'++post).toArray t (0,0))) (bm::B) (bm::B):=by
 obtain⟨t,b,a,vs,j,m,o,u,d,f,g,rfl,A⟩:=i.whole;obtain⟨y,q,s,_⟩:=g.form;refine⟨t,b,a,vs,u,?_,?_,⟨y,q,by rw[s];simp⟩,λM' v w x=>?_⟩
 ·obtain⟨p,c,e,_⟩:=d.form;exact⟨p,c,e⟩
 ·obtain⟨p,c,e,_⟩:=f.form;exact⟨p,c,e⟩
 exact i.IF (mc:=aR b a vs M') ⟨b,a,vs,j,m,o,rfl,by rw[v];exact d,by rw[w];exact f,by rw[x];exact g,rfl⟩ (λz=>Nat.le_refl _)
theorem kz.lens {h0 h:Heap} {bm:Nat} {pre post:List Value} {M:cr} {B:List Nat} {fs:List cJ} {f:cJ} (J:kz h0 h bm pre post M B) (S:M.aq=fs++[f]) :
  ∃ H I vs e c t q r y C B1 g,h bm=some (.cells (pre++aR I (.slice (some ⟨e,0,none⟩) (fs.length+1) c) vs M++post).toArray H (0,0)) /\
   h e=some (.cells (q++[.int .i64 f.aG,.int .i64 f.pc,y,C]++r).toArray t (0,0))/\q.length=fs.length*4/\dx h y f.locals B1/\dx h C f.stack g/\Nd (B1++g)/\(∀ b∈e::(B1++g),h0 b=none/\b∈B) /\
   (∀ b,b∈B1++g->b≠e/\b≠bm)/\e≠bm /\
   ∀ i f' z D m o,i e=some (.cells (q++[.int .i64 f'.aG,.int .i64 f'.pc,z,D]++r).toArray t (0,0))->(∀ b,b ∉ e::(B1++g)->h b≠none->i b=h b)->dx i z f'.locals m->dx i D f'.stack o ->
    (∀ b∈m++o,b∈B1++g\/h b=none)->Nd (m++o)->∃ B',kz h0 i bm pre post {M with aq:=fs++[f']} B'/\Ev h i (bm::B) (bm::B'):=by
 obtain⟨I,vs,e,c,H,t,q,r,y,C,j,B1,g,K,N,hq,o1,o2,nd,T,s,nV⟩:=J.top S;have E:∀ x,(bm::e::(j++B1++g)).count x<=1:=nd;have w:∀ b,b∈B1++g->b≠e/\b≠bm/\b ∉ j:=by
  intro b a;have hp:=W_.2 a;have p:=E b;simp only[Y_,X_]at hp p;refine⟨?_,?_,?_⟩
  ·rintro rfl;simp at p;omega
  ·rintro rfl;simp at p;omega
  intro d;have:=W_.2 d;omega
 have G:e≠bm:=by
  rintro rfl;have p:=E e;simp[X_]at p
 have W:∀ b,b≠bm->b∈bm::e::(j++B1++g)->b∈B:=by
  intro b uD a;have:=(s b).2 a;simpa [uD]using this
 refine⟨H,I,vs,e,c,t,q,r,y,C,B1,g,K,N,hq,o1,o2,?_,?_,λb a=>⟨(w b a).1,(w b a).2.1⟩,G,?_⟩
 ·exact nd.less λx=>by simp only[Y_,X_];omega
 ·intro b a;have d:b∈bm::e::(j++B1++g):=by simp at a ⊢;grind
  refine⟨J.fr b ((s b).2 d),W b ?_ d⟩;rcases List.mem_cons.1 a with rfl|a
  ·exact G
  exact(w b a).2.1
 intro i f' z D m o k1 F k3 k4 L k6;have P:i bm=h bm:=F bm (by simp only[List.mem_cons,not_or];exact⟨λd=>G d.symm,λd=>(w _ d).2.1 rfl⟩) (by rw[K];simp);have Q:∀ b∈j,b ∉ e::(B1++g):=by
  intro b a d;rcases List.mem_cons.1 d with rfl|d
  ·have p:=E b;have:=W_.2 a;simp only[Y_,X_]at p;simp at p;omega
  exact(w b d).2.2 a
 have V:cS h i j:=λb a aa u=>by rw[F b (Q b a) (by rw[u];simp)];exact u
 have hnd:Nd (bm::e::(j++m++o)):=by
  have:=Nd.swap (A:=bm::e::j) (X:=B1++g) (X':=m++o) (nd.perm λx=>by simp only[Y_,X_];omega) k6 (λb a=>?_)
  ·exact this.perm λx=>by simp only[Y_,X_];omega
  rcases L b a with d|d
  ·exact .inl d
  refine .inr λv=>?_;obtain⟨aa,u⟩:=T b (by simp at v ⊢;grind);rw[d]at u;cases u
 have R:Ev h i (bm::B) (bm::e::(j++m++o)):=by
  refine⟨λb a Y=>?_,λb a=>?_⟩
  ·refine F b (λd=>Y ((s b).2 (by simp at d ⊢;grind))) a
  have:b∈m++o\/b∈bm::e::j:=by simp at a ⊢;grind
  rcases this with d|d
  ·rcases L b d with v|v
   ·exact .inl ((s b).2 (by simp at v ⊢;grind))
   exact .inr v
  exact .inl ((s b).2 (by simp at d ⊢;grind))
 exact nV i f' z D m o P k1 k3 k4 V hnd R
theorem uE {h:Heap} {b off:Nat} {pre x post:List Value} {v:Value} {t:TypeId} {K:Heap->Prop} (a:h b=some (.cells (pre++x++post).toArray t (0,0))) {i:Nat} (e:off=pre.length+i) (c:i < x.length)
  (d:K (h.set b (.cells (pre++x.set i v++post).toArray t (0,0)))):St h b off [v] K:=by
 refine st a (by simp;omega) ?_;rw[kg e c];exact d
def gK (u:aI) (to:Int) (a:List Vl):cJ:=⟨to,0,a++List.replicate ((bz u to).locals.toNat-a.length) dy,[]⟩
def iA (u:aI) (to:Int) (a:List Vl) (M:cr):Except Int cr:=if 4<=M.aq.length then .error 6 else .ok {M with aq:=M.aq++[gK u to a]}
theorem qU {h:Heap} {b off:Nat} {pre x post:List Value} {v:Value} {t:TypeId} {K:Heap->Prop} (c:h b=some (.cells (pre++x++post).toArray t (0,0))) {i:Nat} (x':List Value) (f:off=pre.length+i) (d:i < x.length) (g:x.set i v=x')
  (e:∀ a,a=h.set b (.cells (pre++x'++post).toArray t (0,0))->a b=some (.cells (pre++x'++post).toArray t (0,0))->K a):St h b off [v] K:=by
 subst g;exact uE c f d (e _ rfl (cY _ _ _))
theorem Bv {h:Heap} {b off:Nat} {cs:List Value} {vs:List Value} {t:TypeId} {K:Heap->Prop} (d:h b=some (.cells cs.toArray t (0,0))) (a:List Value) (f:off+vs.length<=cs.length) (g:eH cs off vs=a)
  (e:∀ c,c=h.set b (.cells a.toArray t (0,0))->c b=some (.cells a.toArray t (0,0))->K c):St h b off vs K:=by
 subst g;exact st d f (e _ rfl (cY _ _ _))
def pP (v:Vl) (fs:List cJ) (M:cr):Except Int cr:=match fs.getLast? with
 | none=>.ok {M with aq:=[],fin:=1,out:=v}
 | some g=>if g.stack.length < 4 then .ok {M with aq:=fs.dropLast++[{g with stack:=g.stack++[v],pc:=g.pc+1}]}else .error 0
theorem Cu (v:Vl) (M:cr):pP v [] M=.ok {M with aq:=[],fin:=1,out:=v}:=rfl
theorem vl (v:Vl) (a:List cJ) (g:cJ) (M:cr):pP v (a++[g]) M=if g.stack.length < 4 then .ok {M with aq:=a++[{g with stack:=g.stack++[v],pc:=g.pc+1}]}else .error 0:=by simp[pP]
def kP (u:aI) (c a:Int):List je->Option je
 | []=>none
 | k::r=>if (k.lo<=a/\a < k.hi)/\up u.ak c k.cls=true then some k else kP u c a r
def mN (u:aI) (c n:Int):List cJ->Option (List cJ)
 | []=>none
 | f::r=>match kP u c f.pc (bz u f.aG).catches with
  | some k=>some ({f with pc:=k.to,stack:=[⟨true,n⟩]}::r)
  | none=>mN u c n r
def dA (u:aI) (n:Int) (M:cr):cr:=match mN u (aM M.objs n).cls n M.aq.reverse with
 | some l=>{M with aq:=l.reverse}
 | none=>{M with aq:=[],fin:=2,out:=⟨true,n⟩}
theorem oK (u:aI) (n:Int) (M:cr) (a:List cJ) (g:cJ):dA u n {M with aq:=a++[g]}=match kP u (aM M.objs n).cls g.pc (bz u g.aG).catches with
  | some k=>{M with aq:=a++[{g with pc:=k.to,stack:=[⟨true,n⟩]}]}
  | none=>dA u n {M with aq:=a}:=by
 simp only[dA,List.reverse_append,List.reverse_cons,List.reverse_nil,List.nil_append,List.singleton_append,mN];cases kP u (aM M.objs n).cls g.pc (bz u g.aG).catches with
 | some k=>simp
 | none=>rfl
theorem oL {u:aI} {c a:Int}:∀(l:List je) (i:Nat),(∀ j (d:j < l.length),j < i->¬((l[j].lo<=a/\a < l[j].hi)/\up u.ak c l[j].cls=true))->kP u c a l=kP u c a (l.drop i)
 | l,0,_=>by simp
 | [],i+1,_=>by simp
 | m::r,i+1,h=>by
  have b:=h 0 Z O;simp only[List.getElem_cons_zero]at b;rw[kP,if_neg b,List.drop_succ_cons];exact oL r i (λj d e=>by have:=h (j+1) (by simpa using d) O;simpa using this)
theorem kz.mO {h0 h:Heap} {bm:Nat} {pre post:List Value} {M:cr} {B:List Nat} (d:kz h0 h bm pre post M B) {n:Int} (m:0 < n) (o:n<=M.objs.length) :
  ∃ a c,rd h bm (pre.length+0)=some (.slice (some ⟨a,0,none⟩) M.objs.length c)/\rd h a (0+(n-1).toNat*2)=some (.int .i64 (aM M.objs n).cls):=by
 have b:(n-1).toNat < M.objs.length:=by omega
 obtain⟨a,c,u,w,x,s,r,t,v,j,e,f,p,_⟩:=d.obj (tK M.objs b);have q:(M.objs.take (n-1).toNat).length=(n-1).toNat:=by simp;omega
 have g:aM M.objs n=M.objs[(n-1).toNat]:=wG b O;exact⟨a,c,cX e (i:=0) rfl rfl,by rw[g];exact cX f (i:=0) O rfl⟩
def iI (u:aI) (x:dc) (b:List Vl) (fs:List cJ) (M:cr):Except Int cr :=
 let a:=b.getD 0 dy
 if x.kind=20 then iA u x.a b M
 else if x.kind=21 then (match eZ M.objs a.n (up u.ak (aM M.objs a.n).cls x.a)with
  | .error e=>.error e
  | .ok o=>iA u (find u o.cls x.b) b M)
 else if x.kind=22 then pP a fs M
 else if x.kind=23 then (match eZ M.objs a.n (up u.ak (aM M.objs a.n).cls 1)with
  | .error e=>.error e
  | .ok _=>.ok (dA u a.n M))
 else .ok M
abbrev JT:=Except Int (List Ob × cJ × List Int × Bool)
def fV (objs:List Ob) (f:cJ) (a:List Int) (v:Vl):JT:=match ey objs f v with
 | .ok (o,g)=>.ok (o,g,a,false)
 | .error e=>.error e
def lU (u:aI) (x:dc) (d:List Vl) (objs:List Ob) (f:cJ) (a:List Int):JT :=
 let b:=d.getD 0 dy
 let c:=d.getD 1 dy
 if x.kind=1 then fV objs f a ⟨false,x.a⟩
 else if x.kind=2 then fV objs f a ⟨true,0⟩
 else if x.kind=3 then fV objs f a (f.locals.getD x.a.toNat dy)
 else if x.kind=4 then .ok (objs,{f with locals:=f.locals.set x.a.toNat b},a,false)
 else if x.kind=5 then .ok (objs,f,a,false)
 else if x.kind=6 then (match ey objs f b with
  | .ok (_,g)=>fV objs g a b
  | .error e=>.error e)
 else if x.kind=7 then (if (gI x.a b.n c.n).2 then fV objs f a ⟨false,(gI x.a b.n c.n).1⟩else .error 1)
 else if x.kind=8 then .ok (objs,f,a,decide (b.n < c.n))
 else if x.kind=9 then .ok (objs,f,a,decide (b.n=c.n))
 else if x.kind=10 then .ok (objs,f,a,decide (b.n=0))
 else if x.kind=11 then .ok (objs,f,a,true)
 else if x.kind=24 then .ok (objs,f,a++[b.n],false)
 else match gr u x d objs f with
  | .ok (o,g)=>.ok (o,g,a,false)
  | .error e=>.error e
def dR:dc:=⟨0,0,0⟩
def vn (u:aI) (fs:List cJ) (f:cJ) (M:cr):Except Int cr :=
 let a:=(bz u f.aG).code
 if (a.length:Int)<=f.pc then .error 0 else
 let x:=a.getD f.pc.toNat dR
 match eI u x f.stack with
 | none=>.error 0
 | some (ki,rest) =>
  let f1:cJ:={f with stack:=rest}
  if 20<=x.kind/\x.kind<=23 then iI u x ki fs {M with aq:=fs++[f1]}
  else match lU u x ki M.objs f1 M.said with
   | .error e=>.error e
   | .ok (objs,g,said,goes)=>.ok {M with objs:=objs,said:=said,aq:=fs++[{g with pc:=if goes then x.a else f.pc+1}]}
theorem oM {u:aI} {x:dc} {cA b rest:List Vl} (h:eI u x cA=some (b,rest)):∃ a,gT u x=some a/\b.length=a.length/\iX a b=true/\cA=rest++b:=by
 unfold eI at h;split at h
 ·cases h
 rename_i a d;split at h
 ·cases h
 split at h
 ·rename_i e c;simp only[v_,Prod.mk.injEq]at h;obtain⟨rfl,rfl⟩:=h;exact⟨a,d,by simp;omega,c,Z⟩
 cases h
theorem Ej {l:List Vl} (h:l.length=2):∃ a b,l=[a,b]:=by
 match l,h with
 | [a,b],_=>exact⟨a,b,rfl⟩
theorem nG {l:List Vl} (h:l.length=1):∃ a,l=[a]:=by
 match l,h with
 | [a],_=>exact⟨a,rfl⟩
theorem Ek {l:List Vl} (h:l.length=3):∃ a b c,l=[a,b,c]:=by
 match l,h with
 | [a,b,c],_=>exact⟨a,b,c,rfl⟩
theorem nH {u:aI} {k:Int} (h:0<=k/\k < u.methods.length):bz u k∈u.methods:=by
 have a:k.toNat < u.methods.length:=by omega
 rw[gY a O];exact x_ _
theorem tL {h a:Heap} {b:Nat} (e:a b=h b):∀(n off:Nat),dP a b off n=dP h b off n
 | 0,_=>rfl
 | n+1,off=>by
  have:rd a b off=rd h b off:=by unfold rd;rw[e]
  simp only[dP,this,tL e n]
theorem El {objs:List Ob} {f:cJ} {a:List Int} {v:Vl} (h:f.stack.length < 4):fV objs f a v=.ok (objs,{f with stack:=f.stack++[v]},a,false):=by simp[fV,ey,h]
theorem Cv {objs:List Ob} {f:cJ} {a:List Int} {v:Vl} (h:4<=f.stack.length):fV objs f a v=.error 0:=by
 unfold fV ey;rw[if_neg O]
set_option maxHeartbeats 40000000
def JU (u:aI) (f:cJ):Prop:=∀(x:dc) (a rest:List Vl) (c:Int),x∈(bz u f.aG).code->x.kind=21->eI u x f.stack=some (a,rest)->c < u.ak.length->up u.ak c x.a=true->0<=find u c x.b/\((a.length:Int)<=(bz u (find u c x.b)).locals/\(bz u (find u c x.b)).locals<=3)
def lV (i:Int):Ob:=⟨1,[⟨false,i⟩]⟩
def fM (n:Nat):List Ob:=(List.range n).map λ(i:Nat)=>lV ((i:Int)+1)
def lW (u:aI):cr:=⟨fM 7,[⟨0,0,List.replicate (bz u 0).locals.toNat dy,[]⟩],[],0,0,dy⟩
theorem wL (n:Nat):fM (n+1)=fM n++[lV ((n:Int)+1)]:=by simp[fM,List.range_succ]
theorem jW (n:Nat):(fM n).length=n:=by simp[fM]
def gG (u:aI) (M:cr):cr :=
 if M.fin≠0\/200<=M.steps\/200<=M.said.length\/207<=M.objs.length then M
 else match M.aq.getLast? with
  | none=>M
  | some f=>match vn u M.aq.dropLast f M with
   | .ok a=>{a with steps:=a.steps+1}
   | .error k=>if k=0 then {M with fin:=3,steps:=M.steps+1}else {dA u k M with steps:=(dA u k M).steps+1}
theorem Cw {u:aI} {M:cr} {fs:List cJ} {f:cJ} (a:M.aq=fs++[f]) (b:¬(M.fin≠0\/200<=M.steps\/200<=M.said.length\/207<=M.objs.length)):gG u M=match vn u fs f M with
   | .ok M'=>{M' with steps:=M'.steps+1}
   | .error k=>if k=0 then {M with fin:=3,steps:=M.steps+1}else {dA u k M with steps:=(dA u k M).steps+1}:=by
 unfold gG;rw[if_neg b,a];simp
def sE (d:Option Addr) (b:Nat) (c:Option Addr) (a:Nat) (e:Option Addr) (cs:Nat) (M:cr):List Value:=aR (.slice d M.objs.length b) (.slice c M.aq.length a) (.slice e M.said.length cs) M
theorem gZ.sE {h:Heap} {mc:List Value} {M:cr} {B:List Nat} (g:gZ h mc M B):∃ d b c a e cs,mc=sE d b c a e cs M:=by
 obtain⟨t,s,u,o,p,q,rfl,i,j,m,rfl⟩:=g;obtain⟨d,b,rfl,_⟩:=i.form;obtain⟨c,a,rfl,_⟩:=j.form;obtain⟨e,cs,f,_⟩:=m.form;exact⟨d,b,c,a,e,cs,by subst f;simp[Go.Proofs.sE,aR]⟩
theorem yB {cs:List dB} (ok:bX cs):∀(k:Nat) {a b c:Int},a.toNat < k->a < cs.length->up cs a b=true->up cs b c=true->up cs a c=true
 | 0,a,b,c,h,_,_,_=>by omega
 | k+1,a,b,c,h,hl,h1,h2=>by
  have d:=lT h1;rw[fK ok d hl]at h1 ⊢;by_cases e:a=b
  ·subst e;rw[fK ok d hl]at h2;exact h2
  have g:=ok.bJ d hl;simp only[e,decide_false,Bool.false_or]at h1;by_cases f:a=c
  ·simp[f]
  simp only[f,decide_false,Bool.false_or];exact yB ok k (by have:=lT h1;omega) O h1 h2
theorem Mw {cs:List dB} (ok:bX cs) {a b:Int} (d:a < cs.length) (h:up cs a b=true):b<=a:=by
 rcases Int.lt_or_le a b with c|c
 ·rw[z7 ok (a.toNat+1) O d c]at h;cases h
 exact c
theorem qV {cs:List dB} (ok:bX cs):∀(k:Nat) {a b:Int},a.toNat < k->a < cs.length->up cs a b=true->0<=b
 | 0,a,b,h,_,_=>by omega
 | k+1,a,b,h,hl,h1=>by
  have c:=lT h1;rw[fK ok c hl]at h1;by_cases d:a=b
  ·omega
  have e:=ok.bJ c hl;simp only[d,decide_false,Bool.false_or]at h1;exact qV ok k (by have:=lT h1;omega) O h1
theorem Bw {c s:Int}:∀(l:List bT) (k:Int),0<=k->gz c s l k = -1\/∃ i,∃ a:i < l.length,gz c s l k=k+i/\l[i].cls=c/\l[i].eu=s
 | [],k,_=>.inl rfl
 | m::r,k,hk=>by
  rw[gz];split
  ·rename_i h;exact .inr ⟨0,Z,Z,h.1,h.2⟩
  rcases Bw (c:=c) (s:=s) r (k+1) O with h|⟨i,a,b,d,e⟩
  ·exact .inl h
  exact .inr ⟨i+1,by simpa using a,by rw[b];omega,by simpa using d,by simpa using e⟩
theorem yC {u:aI} {c s:Int} (h:0<=gz c s u.methods 0):gz c s u.methods 0 < u.methods.length/\(bz u (gz c s u.methods 0)).cls=c/\(bz u (gz c s u.methods 0)).eu=s:=by
 rcases Bw (c:=c) (s:=s) u.methods 0 O with e|⟨i,f,e,b,d⟩
 ·omega
 have a:gz c s u.methods 0=(i:Int):=by omega
 rw[a,gY f rfl];exact⟨O,b,d⟩
theorem nI {u:aI} (ok:bX u.ak) {s:Int}:∀(k:Nat) {c:Int},c.toNat < k->c < u.ak.length->0<=find u c s->up u.ak c (bz u (find u c s)).cls=true/\(bz u (find u c s)).eu=s/\find u c s < u.methods.length
 | 0,c,h,_,_=>by omega
 | k+1,c,h,hl,hf=>by
  rcases Int.lt_or_le c 0 with a|a
  ·rw[kM a]at hf;omega
  have i:=ok.bJ a hl;by_cases g:0<=gz c s u.methods 0
  ·rw[pK a g];obtain⟨b,d,e⟩:=yC g;exact⟨by rw[d];exact pJ ok a hl,e,b⟩
  rw[sD ok a hl O]at hf ⊢;rcases Int.lt_or_le (bB u.ak c) 0 with f|f
  ·rw[kM f]at hf;omega
  obtain⟨b,d,e⟩:=nI ok k (c:=bB u.ak c) O O hf;exact⟨by rw[fK ok a hl,b];simp,d,e⟩
theorem qW {u:aI} (g:bS u) {s a:Int} (d:a < u.ak.length) (e:0<=find u a s):∀(k:Nat) {c:Int},c.toNat < k->c < u.ak.length->up u.ak c a=true ->
  0<=find u c s/\(bz u (find u c s)).args=(bz u (find u a s)).args/\(bz u (find u c s)).out=(bz u (find u a s)).out
 | 0,c,h,_,_=>by omega
 | k+1,c,h,hl,By=>by
  have ok:=g.1;have b:=lT By;have G:=ok.bJ b hl;have B:=By;rw[fK ok b hl]at By;by_cases m:c=a
  ·subst m;exact⟨e,rfl,rfl⟩
  simp only[m,decide_false,Bool.false_or]at By;by_cases f:0<=gz c s u.methods 0
  ·rw[pK b f];obtain⟨D,x,y⟩:=yC f;obtain⟨t,C,H⟩:=nI ok (a.toNat+1) O d e;refine⟨f,?_⟩;generalize E:gz c s u.methods 0=i at *;generalize F:find u a s=j at *;have o:i.toNat < u.methods.length:=by omega
   have p:j.toNat < u.methods.length:=by omega
   have v:=gY (n:=i) o O;have w:=gY (n:=j) p O;by_cases A:i=j
   ·subst A;exact⟨rfl,rfl⟩
   have q:=g.2.2.2.2 i.toNat j.toNat o p O;rw[<-v,<-w]at q;have z:0<=(bz u j).cls:=qV ok (a.toNat+1) O d t;have:=(q O z (by rw[y,C])).2 (by rw[x];exact yB ok (c.toNat+1) O hl B t);exact⟨this.2,this.1⟩
  rw[sD ok b hl O];exact qW g d e k (by have:=lT By;omega) O By
theorem bS.bz {u:aI} (a:bS u) {k:Int} (h:0<=k/\k < u.methods.length):gJ u (bz u k):=a.2.2.2.1 _ (nH h)
theorem mP {u:aI} (ok:bX u.ak) {s c:Int} (a:c < u.ak.length) (b:0<=find u c s):0<=(bz u (find u c s)).cls :=
 qV ok (c.toNat+1) O a (nI ok (c.toNat+1) O a b).1
theorem jh {m:bT}:(br m).length=(if 0<=m.cls then 1 else 0)+m.args.length:=by
 unfold br;split<;>simp<;>omega
theorem Cx {u:aI} (b:bS u) {f:cJ} (y:0<=f.aG/\f.aG < u.methods.length):JU u f:=by
 intro x J rest c B i z e A;have C:=(b.bz y).2.1.2.2.2.1 x B;obtain⟨I,a,h⟩:=x;simp only at i;subst i;have o:=(aS (p:=5) (q:=9) rfl).1 C;simp[bh]at o;obtain⟨K,g,w,_,_⟩:=oM z;simp[gT]at g;have F:=g.1;obtain⟨d,m,E⟩:=qW b (s:=h) (a:=a) O O (c.toNat+1) O e A;obtain⟨G,H,D⟩:=nI b.1 (s:=h) (c.toNat+1) (c:=c) O e d;have j:=(b.bz ⟨d,D⟩).1;have t:=mP b.1 e d;have v:=j.2.2.2.2.2;rw[jh,if_pos t]at v;refine⟨d,?_,j.2.2.2.2.1⟩;rw[w,<-g.2];simp only[List.length_cons,List.length_replicate];rw[<-m];omega
def jz (n:Nat) (v:Vl):Prop:=(v.ref=true->0<=v.n/\v.n<=n)/\(v.ref=false->isWord v.n=true)
def Em (u:aI) (n:Nat) (o:Ob):Prop:=(∀ v∈o.bp,jz n v)/\(((o.cls = -1\/o.cls = -2)/\o.bp.length<=6)\/(0<=o.cls/\o.cls < u.ak.length/\o.bp.length=(bV u.ak o.cls).length))
def tM (u:aI) (n:Nat) (f:cJ):Prop:=(0<=f.aG/\f.aG < u.methods.length)/\(0<=f.pc/\f.pc<=(bz u f.aG).code.length)/\(f.locals.length:Int)=(bz u f.aG).locals/\f.stack.length<=4/\(∀ v∈f.locals,jz n v)/\∀ v∈f.stack,jz n v
def wM (M:cr):Prop:=((M.fin=0\/M.fin=3)/\M.aq≠[]/\M.out=dy)\/(M.fin=1/\M.aq=[])\/(M.fin=2/\M.aq=[]/\M.out.ref=true/\1<=M.out.n)
structure kn (u:aI) (M:cr):Prop where
 steps:0<=M.steps/\M.steps<=200
 len:7<=M.objs.length/\M.objs.length<=207
 nf:M.aq.length<=4
 mw:M.said.length<=200
 out:jz M.objs.length M.out
 objs:∀ o∈M.objs,Em u M.objs.length o
 low:∀ k,0 < k->k<=7->(aM M.objs k).cls=1
 jX:∀ f∈M.aq,tM u M.objs.length f
 said:∀ n∈M.said,isWord n=true
 fin:wM M
theorem jz.mono {n m:Nat} {v:Vl} (h:jz n v) (b:n<=m):jz m v:=⟨λa=>by have:=h.1 a;omega,h.2⟩
theorem Em.mono {u:aI} {n m:Nat} {o:Ob} (h:Em u n o) (a:n<=m):Em u m o:=⟨λv b=>(h.1 v b).mono a,h.2⟩
theorem tM.mono {u:aI} {n m:Nat} {f:cJ} (h:tM u n f) (b:n<=m):tM u m f:=⟨h.1,h.2.1,h.2.2.1,h.2.2.2.1,λv a=>(h.2.2.2.2.1 v a).mono b,λv a=>(h.2.2.2.2.2 v a).mono b⟩
structure GW (u:aI) (objs:List Ob) (f:cJ):Prop where
 len:7<=objs.length
 uF:∀ o∈objs,Em u objs.length o
 low:∀ k,0 < k->k<=7->(aM objs k).cls=1
 jX:tM u objs.length f
theorem pQ {u:aI} {objs c:List Ob} {f f':cJ} {v:Vl} (h:GW u objs f) (m:jz objs.length v) (a:ey objs f v=.ok (c,f')):c=objs/\GW u c f'/\f'.aG=f.aG/\f'.pc=f.pc/\f'.locals=f.locals/\f'.stack=f.stack++[v]:=by
 unfold ey at a;split at a
 ·simp only[Except.ok.injEq,Prod.mk.injEq]at a;obtain⟨rfl,rfl⟩:=a;obtain⟨d,e,g,o,i,j⟩:=h.jX;refine⟨rfl,⟨h.len,h.uF,h.low,d,e,g,by simp;omega,i,λw b=>?_⟩,rfl,rfl,rfl,rfl⟩;simp only[u_,V_]at b;rcases b with b|rfl
  ·exact j w b
  exact m
 cases a
theorem En {objs:List Ob} {o:Ob} {k:Int} (h:0 < k) (b:k<=objs.length):aM (objs++[o]) k=aM objs k:=by
 have a:(k-1).toNat < objs.length:=by omega
 unfold aM;simp only[S_,List.getElem?_append_left a]
theorem mQ {n:Nat} {k:Int} (h : -128<=k/\k<=127):jz n ⟨false,k⟩:=⟨λa=>(by cases a),λ_=>eU.2 h⟩
theorem Cy (n:Nat) (t:Int):jz n (nothing t):=by
 unfold nothing jz;refine⟨λ_=>Z,λ_=>by show isWord 0=true;decide⟩
theorem JV {u:aI} {objs b:List Ob} {f f':cJ} {k:Int} {types:List Int} (h:GW u objs f) (q:((k = -1\/k = -2)/\types.length<=6)\/(0<=k/\k < u.ak.length/\types.length=(bV u.ak k).length))
  (d:uM k types objs f=.ok (b,f')):b=objs++[⟨k,types.map nothing⟩]/\GW u b f'/\f'.aG=f.aG/\f'.pc=f.pc:=by
 unfold uM at d;have p:GW u (objs++[⟨k,types.map nothing⟩]) f:=by
  refine⟨by have:=h.len;simp;omega,λv a=>?_,λt c o=>by rw[En c (by have:=h.len;omega)];exact h.low t c o,h.jX.mono Z⟩;simp only[u_,V_]at a;rcases a with a|rfl
  ·exact(h.uF v a).mono Z
  refine⟨λx e=>?_,by simpa using q⟩;simp only[List.mem_map]at e;obtain⟨w,_,rfl⟩:=e;exact Cy _ _
 obtain⟨g,i,j,m,_⟩:=pQ p ⟨λ_=>by simp;omega,λs=>by cases s⟩ d;exact⟨g,i,j,m⟩
theorem Eo {objs:List Ob} {n:Int} (h:0 < n) (b:n<=objs.length):∃ a:(n-1).toNat < objs.length,aM objs n=objs[(n-1).toNat] :=
 ⟨O,wG O O⟩
theorem fO {objs:List Ob} {n:Int} (h:0 < n) (b:n<=objs.length):aM objs n∈objs:=by
 obtain⟨a,e⟩:=Eo h b;rw[e];exact x_ a
theorem Ep {objs:List Ob} {n k:Int} {o:Ob} (h:0 < n) (c:n<=objs.length) (b:0 < k):aM (objs.set (n-1).toNat o) k=if k=n then o else aM objs k:=by
 unfold aM;simp only[S_,List.getElem?_set];by_cases a:k=n
 ·subst a;rw[if_pos rfl,if_pos O,if_pos rfl];rfl
 rw[if_neg O,if_neg a]
theorem IG {u:aI} {objs:List Ob} {f:cJ} {n i:Int} {v:Vl} (h:GW u objs f) (m:0 < n) (j:n<=objs.length) (p:jz objs.length v):GW u (gU objs n (putAt (aM objs n).bp i v)) f:=by
 have c:(gU objs n (putAt (aM objs n).bp i v)).length=objs.length:=by simp[gU]
 have g:=h.uF _ (fO m j);refine⟨by rw[c];exact h.len,λq a=>?_,λk b e=>?_,by rw[c];exact h.jX⟩
 ·rw[c];unfold gU at a;rcases List.mem_or_eq_of_mem_set a with a|rfl
  ·exact h.uF q a
  refine⟨λw d=>?_,by simpa [putAt]using g.2⟩;rcases List.mem_or_eq_of_mem_set d with d|rfl
  ·exact g.1 w d
  exact p
 unfold gU;rw[Ep m j b];split
 ·rename_i o;subst o;exact h.low k b e
 exact h.low k b e
theorem hD {objs:List Ob} {n:Int} {a:Bool} {o:Ob} (h:eZ objs n a=.ok o):(0 < n->a=true)/\n≠0/\o=aM objs n:=by
 unfold eZ at h;split at h
 ·cases h
 rename_i b;split at h
 ·cases h
 rename_i c;simp only[Except.ok.injEq]at h;refine⟨λd=>?_,c,h.symm⟩;cases a with
 | true=>rfl
 | false=>exact absurd ⟨d,rfl⟩ b
theorem yD {objs:List Ob} {x:Vl} {k n:Int} {o:Ob} (h:oJ objs x k n=.ok o):(0 < x.n->(aM objs x.n).cls=qT k)/\x.n≠0/\o=aM objs x.n/\0<=n/\n < o.bp.length:=by
 unfold oJ at h;split at h
 ·cases h
 rename_i f c;obtain⟨a,b,rfl⟩:=hD c;split at h
 ·rename_i d;simp only[Except.ok.injEq]at h;subst h;exact⟨λe=>by simpa using a e,b,rfl,d⟩
 cases h
theorem oN {n:Nat} {l:List Vl} {i:Nat} (h:∀ v∈l,jz n v):jz n (l.getD i dy):=by
 rw[S_];cases a:l[i]? with
 | none=>exact mQ (by decide)
 | some v=>exact h v (List.mem_of_getElem? a)
def pR (u:aI) (x:dc):Prop:=(x.kind=12\/x.kind=17\/x.kind=18\/x.kind=19->0<=x.a/\x.a < u.ak.length)/\(x.kind=17\/x.kind=18->0<=x.b/\x.b < (bV u.ak x.a).length)
theorem Cz {u:aI} {x:dc} {w:List Vl} {objs t:List Ob} {f f':cJ} (h:GW u objs f) (T:Ed u x w objs.length) (D:∀ v∈w,jz objs.length v) (E:pR u x)
  (a:gr u x w objs f=.ok (t,f')):GW u t f'/\(t.length=objs.length\/t.length=objs.length+1)/\f'.aG=f.aG/\f'.pc=f.pc:=by
 obtain⟨j,X,Y⟩:=x;obtain⟨t13,t14,t15,t16,t17,t18,t19,V⟩:=T;simp only[pR]at t13 t14 t15 t16 t17 t18 t19 E;have o:∀ v∈w,v.ref=true->v.n≠0->0 < v.n/\v.n<=objs.length:=λv C c W=>by have:=V v C c;omega
 have p:∀ {v:Vl} {f1:cJ} {e:List Ob},jz objs.length v->ey objs f v=.ok (e,f1)->GW u e f1/\(e.length=objs.length\/e.length=objs.length+1)/\f1.aG=f.aG/\f1.pc=f.pc:=by
  intro v f1 e C a;obtain⟨rfl,z,A,B,_⟩:=pQ h C a;exact⟨z,.inl rfl,A,B⟩
 have L:∀ {k:Int} {types:List Int} {f1:cJ} {e:List Ob},((k = -1\/k = -2)/\types.length<=6)\/(0<=k/\k < u.ak.length/\types.length=(bV u.ak k).length)->uM k types objs f=.ok (e,f1)->GW u e f1/\(e.length=objs.length\/e.length=objs.length+1)/\f1.aG=f.aG/\f1.pc=f.pc:=by
  intro k types f1 e S a;obtain⟨rfl,z,A,B⟩:=JV h S a;exact⟨z,.inr Z,A,B⟩
 simp only[gr]at a;by_cases q:j=12
 ·rw[if_pos q]at a;exact L (.inr ⟨(E.1 (by simp[q])).1,(E.1 (by simp[q])).2,rfl⟩) a
 rw[if_neg q]at a;by_cases M:j=13
 ·rw[if_pos M]at a;split at a
  ·exact L (.inl ⟨by unfold qT;split<;>simp,by rw[List.length_replicate];omega⟩) a
  cases a
 rw[if_neg M]at a;by_cases F:j=14
 ·rw[if_pos F]at a;obtain⟨d,rfl,c⟩:=t14 F;split at a
  ·cases a
  rename_i s i;obtain⟨m,g,rfl⟩:=hD i;have b:=o d Z c g;have Q:=h.uF _ (fO b.1 b.2);have R:=m b.1;simp only[List.getD_cons_zero,decide_eq_true_eq]at R;refine p ⟨λc=>(by cases c),λ_=>eU.2 ?_⟩ a;simp only[List.getD_cons_zero];rcases Q.2 with ⟨_,P⟩|⟨P,_,_⟩
  ·omega
  omega
 rw[if_neg F]at a;by_cases G:j=15
 ·rw[if_pos G]at a;obtain⟨d,y,rfl,c⟩:=t15 G;split at a
  ·cases a
  rename_i s i;obtain⟨m,g,rfl,_⟩:=yD i;have b:=o d Z c g;exact p (oN (h.uF _ (fO b.1 b.2)).1) a
 rw[if_neg G]at a;by_cases H:j=16
 ·rw[if_pos H]at a;obtain⟨d,y,N,rfl,c⟩:=t16 H;split at a
  ·cases a
  rename_i s i;obtain⟨m,g,rfl,_⟩:=yD i;have b:=o d Z c g;simp only[Except.ok.injEq,Prod.mk.injEq]at a;obtain⟨rfl,rfl⟩:=a;exact⟨IG h b.1 b.2 (D N Z),.inl (by simp[gU]),rfl,rfl⟩
 rw[if_neg H]at a;by_cases I:j=17
 ·rw[if_pos I]at a;obtain⟨d,rfl,c⟩:=t17 I;split at a
  ·cases a
  rename_i s i;obtain⟨m,g,rfl⟩:=hD i;have b:=o d Z c g;exact p (oN (h.uF _ (fO b.1 b.2)).1) a
 rw[if_neg I]at a;by_cases J:j=18
 ·rw[if_pos J]at a;obtain⟨d,y,rfl,c⟩:=t18 J;split at a
  ·cases a
  rename_i s i;obtain⟨m,g,rfl⟩:=hD i;have b:=o d Z c g;simp only[Except.ok.injEq,Prod.mk.injEq]at a;obtain⟨rfl,rfl⟩:=a;exact⟨IG h b.1 b.2 (D y Z),.inl (by simp[gU]),rfl,rfl⟩
 rw[if_neg J]at a;by_cases K:j=19
 ·rw[if_pos K]at a;obtain⟨d,rfl,c⟩:=t19 K;split at a
  ·cases a
  exact p (D d Z) a
 rw[if_neg K]at a;simp only[Except.ok.injEq,Prod.mk.injEq]at a;obtain⟨rfl,rfl⟩:=a;exact⟨h,.inl rfl,rfl,rfl⟩
theorem JW {u:aI} {x:dc} {cA e rest:List Vl} {n:Nat} (g:eI u x cA=some (e,rest)) (h:∀ v∈cA,jz n v):Ed u x e n:=by
 obtain⟨p,d,c,a,rfl⟩:=oM g;obtain⟨o,j,m⟩:=x;refine⟨λb=>?_,λb=>?_,λb=>?_,λb=>?_,λb=>?_,λb=>?_,λb=>?_,λv i f=>(h v (by simp[i])).1 f⟩;all_goals
  simp only at b;subst b;simp[gT]at d;subst d
 ·exact nG c
 ·obtain⟨v,rfl⟩:=nG c;exact⟨v,rfl,by simpa [iX]using a⟩
 ·obtain⟨v,w,rfl⟩:=Ej c;exact⟨v,w,rfl,by simp[iX]at a;exact a.1⟩
 ·obtain⟨v,w,z,rfl⟩:=Ek c;exact⟨v,w,z,rfl,by simp[iX]at a;exact a.1⟩
 ·obtain⟨v,rfl⟩:=nG c;exact⟨v,rfl,by simpa [iX]using a⟩
 ·obtain⟨v,w,rfl⟩:=Ej c;exact⟨v,w,rfl,by simp[iX]at a;exact a⟩
 obtain⟨v,rfl⟩:=nG c;exact⟨v,rfl,by simpa [iX]using a⟩
theorem GW.loc {u:aI} {objs:List Ob} {f:cJ} (h:GW u objs f) (i:Nat) {v:Vl} (m:jz objs.length v):GW u objs {f with locals:=f.locals.set i v}:=by
 obtain⟨b,c,d,e,g,j⟩:=h.jX;refine⟨h.len,h.uF,h.low,b,c,by simpa using d,e,λw a=>?_,j⟩;rcases List.mem_or_eq_of_mem_set a with a|rfl
 ·exact g w a
 exact m
theorem nJ {objs:List Ob} {f:cJ} {a:List Int} {v:Vl} {r:List Ob × cJ × List Int × Bool} (h:fV objs f a v=.ok r):∃ o g,ey objs f v=.ok (o,g)/\r=(o,g,a,false):=by
 unfold fV at h;split at h
 ·rename_i o g b;simp only[Except.ok.injEq]at h;exact⟨o,g,b,h.symm⟩
 cases h
theorem GR {c a b:Int} : -128<=(gI c a b).1/\(gI c a b).1<=127:=by
 unfold gI;have:=Bo (a+b);have:=Bo (a-b);have:=Bo (a*b);have:=Bo (a.tdiv b);repeat' split
 all_goals simp only
 all_goals omega
theorem dw.iJ {u:aI} {m:bT} {x:dc} (a:dw u m x):pR u x:=by
 obtain⟨e,c,d⟩:=x;refine⟨λb=>?_,λb=>?_⟩
 ·simp only at b;rcases b with rfl|rfl|rfl|rfl
  ·have:=(aS (p:=5) (q:=0) rfl).1 a;simp[bh]at this;exact this.1
  ·have:=(aS (p:=5) (q:=8) rfl).1 a;simp[bh]at this;exact this.1
  ·have:=(aS (p:=5) (q:=8) rfl).1 a;simp[bh]at this;exact this.1
  have:=(aS (p:=5) (q:=0) rfl).1 a;simp[bh]at this;exact this.1
 simp only at b;rcases b with rfl|rfl
 ·have:=(aS (p:=5) (q:=8) rfl).1 a;simp[bh]at this;exact this.2
 have:=(aS (p:=5) (q:=8) rfl).1 a;simp[bh]at this;exact this.2
theorem JX {u:aI} {m:bT} {x:dc} {E:List Vl} {objs e:List Ob} {f g:cJ} {i j:List Int} {t:Bool} (h:GW u objs f) (ht:Ed u x E objs.length) (C:∀ v∈E,jz objs.length v) (d:dw u m x)
  (OK:x.kind=24->∃ a,E=[a]/\a.ref=false)
  (b:lU u x E objs f i=.ok (e,g,j,t)):GW u e g/\(e.length=objs.length\/e.length=objs.length+1)/\g.aG=f.aG/\g.pc=f.pc/\(j=i\/∃ w,isWord w=true/\j=i++[w])/\(t=true->8<=x.kind/\x.kind<=11):=by
 have OL:=d.iJ;obtain⟨c,xa,xb⟩:=x;have D:∀ {v:Vl},jz objs.length v->fV objs f i v=.ok (e,g,j,t)->GW u e g/\(e.length=objs.length\/e.length=objs.length+1)/\g.aG=f.aG/\g.pc=f.pc/\(j=i\/∃ w,isWord w=true/\j=i++[w])/\(t=true->8<=c/\c<=11):=by
  intro v hv b;obtain⟨W,J,A,o⟩:=nJ b;simp only[Prod.mk.injEq]at o;obtain⟨rfl,rfl,rfl,rfl⟩:=o;obtain⟨rfl,s,y,z,_⟩:=pQ h hv A;exact⟨s,.inl rfl,y,z,.inl rfl,λd=>by cases d⟩
 have B:∀ {F:Bool},(F=true->8<=c/\c<=11)->(Except.ok (objs,f,i,F):JT)=.ok (e,g,j,t)->GW u e g/\(e.length=objs.length\/e.length=objs.length+1)/\g.aG=f.aG/\g.pc=f.pc/\(j=i\/∃ w,isWord w=true/\j=i++[w])/\(t=true->8<=c/\c<=11):=by
  intro F hb o;simp only[Except.ok.injEq,Prod.mk.injEq]at o;obtain⟨rfl,rfl,rfl,rfl⟩:=o;exact⟨h,.inl rfl,rfl,rfl,.inl rfl,hb⟩
 simp only[lU]at b;by_cases H:c=1
 ·rw[if_pos H]at b;subst H;have:=(aS (p:=1) (q:=0) rfl).1 d;simp[bh]at this;exact D (mQ (eU.1 this.1)) b
 rw[if_neg H]at b;by_cases M:c=2
 ·rw[if_pos M]at b;exact D ⟨λ_=>Z,λG=>by cases G⟩ b
 rw[if_neg M]at b;by_cases N:c=3
 ·rw[if_pos N]at b;exact D (oN h.jX.2.2.2.2.1) b
 rw[if_neg N]at b;by_cases P:c=4
 ·rw[if_pos P]at b;simp only[Except.ok.injEq,Prod.mk.injEq]at b;obtain⟨rfl,rfl,rfl,rfl⟩:=b;exact⟨h.loc _ (oN C),.inl rfl,rfl,rfl,.inl rfl,λd=>by cases d⟩
 rw[if_neg P]at b;by_cases Q:c=5
 ·rw[if_pos Q]at b;exact B (λd=>by cases d) b
 rw[if_neg Q]at b;by_cases R:c=6
 ·rw[if_pos R]at b;split at b
  ·rename_i W J A;obtain⟨rfl,s,y,z,_⟩:=pQ h (oN C) A;obtain⟨o2,g2,h2,o⟩:=nJ b;simp only[Prod.mk.injEq]at o;obtain⟨rfl,rfl,rfl,rfl⟩:=o;obtain⟨rfl,s,Y,Xm,_⟩:=pQ s (oN C) h2;exact⟨s,.inl rfl,by rw[Y,y],by rw[Xm,z],.inl rfl,λd=>by cases d⟩
  cases b
 rw[if_neg R]at b;by_cases S:c=7
 ·rw[if_pos S]at b;split at b
  ·exact D (mQ GR) b
  cases b
 rw[if_neg S]at b;by_cases T:c=8
 ·rw[if_pos T]at b;exact B (λ_=>O) b
 rw[if_neg T]at b;by_cases V:c=9
 ·rw[if_pos V]at b;exact B (λ_=>O) b
 rw[if_neg V]at b;by_cases K:c=10
 ·rw[if_pos K]at b;exact B (λ_=>O) b
 rw[if_neg K]at b;by_cases L:c=11
 ·rw[if_pos L]at b;exact B (λ_=>O) b
 rw[if_neg L]at b;by_cases I:c=24
 ·rw[if_pos I]at b;obtain⟨a,rfl,G⟩:=OK I;simp only[Except.ok.injEq,Prod.mk.injEq]at b;obtain⟨rfl,rfl,rfl,rfl⟩:=b;exact⟨h,.inl rfl,rfl,rfl,.inr ⟨a.n,(C a Z).2 G,rfl⟩,λd=>by cases d⟩
 rw[if_neg I]at b;split at b
 ·rename_i W J A;simp only[Except.ok.injEq,Prod.mk.injEq]at b;obtain⟨rfl,rfl,rfl,rfl⟩:=b;obtain⟨X,s,y,z⟩:=Cz h ht C OL A;exact⟨X,s,y,z,.inl rfl,λd=>by cases d⟩
 cases b
theorem vp {u:aI} {c a:Int}:∀ {l:List je} {k:je},kP u c a l=some k->k∈l/\(k.lo<=a/\a < k.hi)/\up u.ak c k.cls=true
 | [],_,h=>by cases h
 | m::r,k,h=>by
  rw[kP]at h;split at h
  ·rename_i b;simp only[v_]at h;subst h;exact⟨Z,b.1,b.2⟩
  obtain⟨d,e⟩:=vp h;exact⟨by simp[d],e⟩
def sF (u:aI) (s:Bool) (g k:cJ):Prop:=(g.pc < (bz u g.aG).code.length\/s=false/\∀ x∈(bz u k.aG).code,x.kind≠22) /\
 (s=true->(((bz u g.aG).code.getD g.pc.toNat dR).kind=20/\((bz u g.aG).code.getD g.pc.toNat dR).a=k.aG) \/
  (((bz u g.aG).code.getD g.pc.toNat dR).kind=21/\0<=(bz u k.aG).cls/\(bz u k.aG).eu=((bz u g.aG).code.getD g.pc.toNat dR).b/\0<=find u ((bz u g.aG).code.getD g.pc.toNat dR).a ((bz u g.aG).code.getD g.pc.toNat dR).b))
def jA (u:aI) (l:List cJ) (s:Bool:=true):Prop:=∀ a g k b,l=a++g::k::b->sF u s g k
theorem jA.pre {u:aI} {s:Bool} {a b:List cJ} (h:jA u (a++b) s):jA u a s:=λc g k d e=>h c g k (d++b) (by rw[e];simp)
theorem jA.last {u:aI} {s:Bool} {fs:List cJ} {f f':cJ} (h:jA u (fs++[f]) s) (i:f'.aG=f.aG):jA u (fs++[f']) s:=by
 intro a g k j e;rcases List.eq_nil_or_concat j with rfl|⟨d,z,rfl⟩
 ·have b:fs++[f']=(a++[g])++[k]:=by rw[e];simp
  obtain⟨rfl,c⟩:=List.append_inj' b rfl;simp only[List.cons.injEq,and_true]at c;subst c;have:=h a g f [] Z;unfold sF at this ⊢;rw[i];exact this
 have b:fs++[f']=(a++g::k::d)++[z]:=by rw[e];simp
 obtain⟨rfl,c⟩:=List.append_inj' b rfl;exact h a g k (d++[f]) Z
theorem jA.push {u:aI} {s:Bool} {fs:List cJ} {f k:cJ} (h:jA u (fs++[f]) s) (o:sF u s f k):jA u (fs++[f]++[k]) s:=by
 intro c g d p e;rcases List.eq_nil_or_concat p with rfl|⟨m,z,rfl⟩
 ·have a:fs++[f]++[k]=(c++[g])++[d]:=by rw[e];simp
  obtain⟨b,i⟩:=List.append_inj' a rfl;obtain⟨_,j⟩:=List.append_inj' b rfl;simp only[List.cons.injEq,and_true]at i j;subst i j;exact o
 have a:fs++[f]++[k]=(c++g::d::m)++[z]:=by rw[e];simp
 obtain⟨b,_⟩:=List.append_inj' a rfl;exact h c g d m b
theorem rN {u:aI} {c n:Int}:∀ {l a:List cJ},mN u c n l=some a->∃ b f r k,l=b++f::r/\k∈(bz u f.aG).catches/\a = {f with pc:=k.to,stack:=[⟨true,n⟩]}::r
 | [],_,h=>by cases h
 | f::r,a,h=>by
  rw[mN]at h;split at h
  ·rename_i t i;simp only[v_]at h;exact⟨[],f,r,t,rfl,(vp i).1,h.symm⟩
  obtain⟨b,g,j,k,rfl,d,e⟩:=rN h;exact⟨f::b,g,j,k,rfl,d,e⟩
theorem Er {u:aI} (z:bS u) {c n:Int} {k:Nat} (w:0<=n/\n<=k) {l a:List cJ} (h:mN u c n l=some a) (e:∀ f∈l,tM u k f) (s:Bool:=true):a≠[]/\a.length<=l.length/\(∀ f∈a,tM u k f)/\(jA u l.reverse s->jA u a.reverse s):=by
 obtain⟨j,f,r,t,rfl,y,rfl⟩:=rN h;refine⟨Z,Z,λo b=>?_,λg=>?_⟩
 ·rcases List.mem_cons.1 b with rfl|b
  ·obtain⟨d,A,p,B,q,C⟩:=e f Z;have v:=(z.bz d).2.2.2 t y;have:=v.1;refine⟨d,⟨by show 0<=t.to;omega,by show t.to<=((bz u f.aG).code.length:Int);omega⟩,p,Z,q,λD i=>?_⟩;simp only[V_]at i;subst i;exact⟨λ_=>w,λx=>by cases x⟩
  exact e o (by simp[b])
 have m:(j++f::r).reverse=(r.reverse++[f])++j.reverse:=by simp
 rw[m]at g;have:=g.pre.last (f':={f with pc:=t.to,stack:=[⟨true,n⟩]}) rfl;simpa using this
theorem yE {u:aI} (q:bS u) {M:cr} (h:kn u M) (i:M.fin=0) {n:Int} (m:0 < n/\n<=M.objs.length) (s:Bool:=true):kn u (dA u n M)/\(jA u M.aq s->jA u (dA u n M).aq s):=by
 have o:M.out=dy:=by
  rcases h.fin with a|a|a
  ·exact a.2.2
  ·omega
  omega
 unfold dA;split
 ·rename_i l j;obtain⟨a,c,d,g⟩:=Er q (k:=M.objs.length) O j (λf b=>h.jX f (by simpa using b)) s;refine⟨⟨h.steps,h.len,?_,h.mw,h.out,h.objs,h.low,λf b=>d f (by simpa using b),h.said,.inl ⟨.inl i,by simpa using a,o⟩⟩,by simpa using g⟩;have:=h.nf;simp only[List.length_reverse]at c ⊢;omega
 refine⟨⟨h.steps,h.len,Z,h.mw,⟨λ_=>⟨by show 0<=n;omega,m.2⟩,λp=>by cases p⟩,h.objs,h.low,λf b=>(by cases b),h.said,.inr (.inr ⟨rfl,rfl,rfl,by show 1<=n;omega⟩)⟩,λ_ v t k w e=>?_⟩;have:=congrArg List.length e;simp at this
theorem Bz {u:aI} {M M':cr} {to:Int} {c:List Vl} (h:kn u M) (j:M.fin=0) (p:0<=to/\to < u.methods.length) (w:(c.length:Int)<=(bz u to).locals) (q:∀ v∈c,jz M.objs.length v) {fs:List cJ} {f:cJ} (m:M.aq=fs++[f]) {s:Bool} (g:jA u M.aq s) (i:sF u s f (gK u to c)) (b:iA u to c M=.ok M'):kn u M'/\jA u M'.aq s/\M'.steps=M.steps:=by
 have o:M.aq≠[]/\M.out=dy:=by
  rcases h.fin with e|e|e
  ·exact e.2
  ·omega
  omega
 unfold iA at b;split at b
 ·cases b
 rename_i t;simp only[Except.ok.injEq]at b;subst b;refine⟨⟨h.steps,h.len,by simp;omega,h.mw,h.out,h.objs,h.low,λf d=>?_,h.said,.inl ⟨.inl j,Z,o.2⟩⟩,?_,rfl⟩;rotate_left
 ·show jA u (M.aq++[gK u to c]) s;rw[m]at g ⊢;exact g.push i
 simp only[u_,V_]at d;rcases d with d|rfl
 ·exact h.jX f d
 refine⟨p,⟨by simp[gK],by simp[gK]⟩,?_,by simp[gK],λv a=>?_,λv a=>by simp[gK]at a⟩
 ·simp only[gK,U_,List.length_replicate];omega
 simp only[gK,u_]at a;rcases a with a|a
 ·exact q v a
 rw[List.eq_of_mem_replicate a];exact mQ (by decide)
theorem My {u:aI} {s:Bool} (w:bS u) {M M':cr} {fs:List cJ} {f:cJ} (h:kn u M) (y:M.fin=0) (x:M.aq=fs++[f]) (hs:M.said.length < 200) (ho:M.objs.length < 207) (z:jA u M.aq s) (a:vn u fs f M=.ok M'):kn u M'/\jA u M'.aq s/\M'.steps=M.steps:=by
 have Mz:f∈M.aq:=by rw[x];simp
 have b:=h.jX f Mz;have UF:=w.bz b.1;have tO:M.out=dy:=by
  rcases h.fin with e|e|e
  ·exact e.2.2
  ·omega
  omega
 unfold vn at a;simp only at a;split at a
 ·cases a
 rename_i OM;have mC:f.pc.toNat < (bz u f.aG).code.length:=by have:=b.2.1.1;omega
 have P:(bz u f.aG).code[f.pc.toNat]∈(bz u f.aG).code:=x_ _;have UG:(bz u f.aG).code.getD f.pc.toNat dR=(bz u f.aG).code[f.pc.toNat]:=by simp[mC]
 have N:=UF.2.1.2.2.2.1 _ P;rw[UG]at a;generalize Xn:(bz u f.aG).code[f.pc.toNat]=Q at P N a;split at a
 ·cases a
 rename_i D rest ht;have pS:=oM ht;obtain⟨ws,j,L,F,RI⟩:=pS;have MA:∀ v∈rest,jz M.objs.length v:=λv B=>b.2.2.2.2.2 v (by rw[RI];simp[B]);have A:∀ v∈D,jz M.objs.length v:=λv B=>b.2.2.2.2.2 v (by rw[RI];simp[B]);have II:rest.length<=4:=by have:=b.2.2.2.1;rw[RI]at this;simp at this;omega
 have ON:tM u M.objs.length {f with stack:=rest}:=⟨b.1,b.2.1,b.2.2.1,II,b.2.2.2.2.1,MA⟩
 have Xo:GW u M.objs {f with stack:=rest}:=⟨h.len.1,h.objs,h.low,ON⟩
 have J:∀ g∈fs,tM u M.objs.length g:=λg i=>h.jX g (by rw[x];simp[i]);have RJ:fs.length+1<=4:=by have:=h.nf;rw[x]at this;simpa using this
 have X:kn u {M with aq:=fs++[{f with stack:=rest}]}:=⟨h.steps,h.len,by simpa using RJ,h.mw,h.out,h.objs,h.low,λg i=>by
  simp only[u_,V_]at i;rcases i with i|rfl
  ·exact J g i
  exact ON,h.said,.inl ⟨.inl y,Z,tO⟩⟩
 have hT:=JW ht b.2.2.2.2.2;rw[x]at z;have JY:jA u (fs++[{f with stack:=rest}]) s:=z.last rfl;have UH:(bz u f.aG).code.getD f.pc.toNat dR=Q:=by rw[UG];exact Xn
 split at a
 ·rename_i d;obtain⟨m,o,t⟩:=Q;simp only[iI]at a d;by_cases JZ:m=20
  ·rw[if_pos JZ]at a;subst JZ;have:=(aS (p:=7) (q:=0) rfl).1 N;simp[bh]at this;have I:=this.1.1;have Gl:=(w.bz I).1;have Ae:=Gl.2.2.2.2.2;rw[jh,if_neg O]at Ae;simp[gT]at j;subst j;have GS:(D.length:Int)<=(bz u o).locals:=by rw[L];simp;omega
   have Cl:((bz u f.aG).code.getD f.pc.toNat dR).kind=20/\((bz u f.aG).code.getD f.pc.toNat dR).a=o:=by rw[UH];exact⟨rfl,rfl⟩
   have GU:=Bz X y I GS A rfl JY ⟨.inl (by show f.pc < ((bz u f.aG).code.length:Int);omega),λ_=>.inl Cl⟩ a;exact GU
  rw[if_neg JZ]at a;by_cases J0:m=21
  ·rw[if_pos J0]at a;subst J0;split at a
   ·cases a
   rename_i ad e;obtain⟨R,S,rfl⟩:=hD e;simp[gT]at j;have jq:D.length=(bz u (find u o t)).args.length+1:=by rw[L,<-j.2];simp
   obtain⟨v,r,rfl⟩:∃ v r,D=v::r:=by
    cases D with
    | nil=>simp at jq
    | cons v r=>exact⟨v,r,rfl⟩
   have hr:v.ref=true:=by rw[<-j.2]at F;simp[iX]at F;exact F.1
   simp only[List.getD_cons_zero]at R S a;have Y:=(A v Z).1 hr;have By:=R O;have hO:=h.objs _ (fO (objs:=M.objs) (n:=v.n) O Y.2);have su:(aM M.objs v.n).cls < u.ak.length:=by
    rcases hO.2 with ⟨H,_⟩|⟨_,H,_⟩
    ·have:=w.1.1;omega
    exact H
   have K:=Cx w b.1 ⟨21,o,t⟩ (v::r) rest _ P rfl ht su By;have Xp:=nI w.1 (s:=t) ((aM M.objs v.n).cls.toNat+1) (c:=(aM M.objs v.n).cls) O su K.1;have Cl:((bz u f.aG).code.getD f.pc.toNat dR).kind=21/\0<=(bz u (find u (aM M.objs v.n).cls t)).cls/\(bz u (find u (aM M.objs v.n).cls t)).eu=((bz u f.aG).code.getD f.pc.toNat dR).b/\0<=find u ((bz u f.aG).code.getD f.pc.toNat dR).a ((bz u f.aG).code.getD f.pc.toNat dR).b:=by
    rw[UH];exact⟨rfl,mP w.1 su K.1,Xp.2.1,j.1⟩
   have GU:=Bz X y ⟨K.1,(eD u _ _).2⟩ K.2.1 A rfl JY ⟨.inl (by show f.pc < ((bz u f.aG).code.length:Int);omega),λ_=>.inr Cl⟩ a;exact GU
  rw[if_neg J0]at a;by_cases RK:m=22
  ·rw[if_pos RK]at a;subst RK;have B:jz M.objs.length (D.getD 0 dy):=oN A;rcases List.eq_nil_or_concat fs with rfl|⟨gs,g,rfl⟩
   ·rw[Cu]at a;simp only[Except.ok.injEq]at a;subst a;exact⟨⟨h.steps,h.len,Z,h.mw,B,h.objs,h.low,λf x=>(by cases x),h.said,.inr (.inl ⟨rfl,rfl⟩)⟩,λgs g k hs ab=>(by have:=congrArg List.length ab;simp at this),rfl⟩
   rw[List.concat_eq_append,vl]at a;split at a
   ·rename_i h4;simp only[Except.ok.injEq]at a;subst a;have i:=J g Z;have UI:=z gs g f [] Z;have UI:=UI.1.resolve_right λhx=>hx.2 _ P rfl;rw[List.concat_eq_append]at z;refine⟨⟨h.steps,h.len,by simp at RJ ⊢;omega,h.mw,h.out,h.objs,h.low,λk d=>?_,h.said,.inl ⟨.inl y,Z,tO⟩⟩,z.pre.last rfl,rfl⟩;simp only[u_,V_]at d;rcases d with d|rfl
    ·exact J k (by simp[d])
    obtain⟨e,H,V,h5,W,h7⟩:=i;refine⟨e,⟨by show 0<=g.pc+1;omega,by show g.pc+1<=((bz u g.aG).code.length:Int);omega⟩,V,by simp;omega,W,λaa C=>?_⟩;simp only[u_,V_]at C;rcases C with C|rfl
    ·exact h7 aa C
    exact B
   cases a
  rw[if_neg RK]at a;have IJ:m=23:=by omega
  subst IJ;simp only[if_true]at a;split at a
  ·cases a
  rename_i ad e;obtain⟨R,S,rfl⟩:=hD e;simp only[Except.ok.injEq]at a;subst a;simp[gT]at j;subst j;obtain⟨v,rfl⟩:=nG L;have hr:v.ref=true:=by simpa [iX]using F
  simp only[List.getD_cons_zero]at S ⊢;have Y:=(A v Z).1 hr;have zy:=yE w X y (n:=v.n) ⟨O,Y.2⟩ s;exact⟨zy.1,zy.2 JY,by unfold dA;split<;>rfl⟩
 rename_i d;split at a
 ·cases a
 rename_i objs g said goes hm;simp only[Except.ok.injEq]at a;subst a;obtain⟨G,e2,T,e4,e5,e6⟩:=JX Xo hT A N (λOK=>by
  obtain⟨m,o,t⟩:=Q;simp only at OK;subst OK;simp[gT]at j;subst j;obtain⟨v,rfl⟩:=nG L;exact⟨v,rfl,by simpa [iX]using F⟩) hm
 have hle:M.objs.length<=objs.length:=by omega
 refine⟨⟨h.steps,⟨G.len,by show objs.length<=207;have:=h.len.2;omega⟩,by simpa using RJ,?_,h.out.mono hle,G.uF,G.low,λk d=>?_,?_,.inl ⟨.inl y,Z,tO⟩⟩,z.last T,rfl⟩
 ·rcases e5 with rfl|⟨aa,_,rfl⟩
  ·exact h.mw
  simp;omega
 ·simp only[u_,V_]at d;rcases d with d|rfl
  ·exact(J k d).mono hle
  obtain⟨e,H,V,h4,h5,W⟩:=G.jX;refine⟨e,?_,V,h4,h5,W⟩;simp only at T;simp only[T];split
  ·rename_i i;have OO:=e6 i;obtain⟨m,o,t⟩:=Q;simp only at OO;have Xq:m=8\/m=9\/m=10\/m=11:=by omega
   have I:0<=o/\o < (bz u f.aG).code.length:=by
    rcases Xq with rfl|rfl|rfl|rfl;all_goals
     have:=(aS (p:=4) (q:=0) rfl).1 N;simp[bh]at this;exact this.1
   exact⟨I.1,by show o<=_;omega⟩
  have:=b.2.1;exact⟨O,O⟩
 intro n E;rcases e5 with rfl|⟨aa,C,rfl⟩
 ·exact h.said n E
 simp only[u_,V_]at E;rcases E with E|rfl
 ·exact h.said n E
 exact C
theorem qX {objs:List Ob} {f:cJ} {v:Vl} {k:Int} (h:ey objs f v=.error k):k=0:=by
 unfold ey at h;split at h
 ·cases h
 simpa using h.symm
theorem CA {objs:List Ob} {f:cJ} {b:List Int} {v:Vl} {k:Int} (h:fV objs f b v=.error k):k=0:=by
 unfold fV at h;split at h
 ·cases h
 rename_i e a;simp only[Except.error.injEq]at h;subst h;exact qX a
theorem oO {objs:List Ob} {n:Int} {a:Bool} {k:Int} (h:eZ objs n a=.error k):k=0\/k=2:=by
 unfold eZ at h;split at h
 ·exact .inl (by simpa using h.symm)
 split at h
 ·exact .inr (by simpa using h.symm)
 cases h
theorem Es {objs:List Ob} {x:Vl} {a n k:Int} (h:oJ objs x a n=.error k):k=0\/k=2\/k=3:=by
 unfold oJ at h;split at h
 ·rename_i e b;simp only[Except.error.injEq]at h;subst h;rcases oO b with h|h
  ·exact .inl h
  exact .inr (.inl h)
 split at h
 ·cases h
 exact .inr (.inr (by simpa using h.symm))
def wN (k:Int):Prop:=k=0\/0 < k/\k<=7
theorem yF {u:aI} {x:dc} {b:List Vl} {objs:List Ob} {f:cJ} {k:Int} (h:gr u x b objs f=.error k):wN k:=by
 unfold gr at h;simp only[uM]at h;repeat' split at h
 all_goals first
  | (cases h;done)
  | (have:=qX h;unfold wN;omega)
  | (rename_i e a;simp only[Except.error.injEq]at h;subst h;first|(have:=oO a;unfold wN;omega)|(have:=Es a;unfold wN;omega))
  | (simp only[Except.error.injEq]at h;unfold wN;omega)
theorem Et {u:aI} {x:dc} {y:List Vl} {objs:List Ob} {f:cJ} {v:List Int} {k:Int} (h:lU u x y objs f v=.error k):wN k:=by
 have a:∀ {f1:cJ} {z:Vl},fV objs f1 v z=.error k->wN k:=λh=>by have:=CA h;unfold wN;omega
 unfold lU at h;simp only at h;by_cases c:x.kind=1
 ·rw[if_pos c]at h;exact a h
 rw[if_neg c]at h;by_cases g:x.kind=2
 ·rw[if_pos g]at h;exact a h
 rw[if_neg g]at h;by_cases j:x.kind=3
 ·rw[if_pos j]at h;exact a h
 rw[if_neg j]at h;by_cases m:x.kind=4
 ·rw[if_pos m]at h;cases h
 rw[if_neg m]at h;by_cases o:x.kind=5
 ·rw[if_pos o]at h;cases h
 rw[if_neg o]at h;by_cases p:x.kind=6
 ·rw[if_pos p]at h;split at h
  ·exact a h
  rename_i w b;simp only[Except.error.injEq]at h;subst h;have:=qX b;unfold wN;omega
 rw[if_neg p]at h;by_cases q:x.kind=7
 ·rw[if_pos q]at h;split at h
  ·exact a h
  simp only[Except.error.injEq]at h;unfold wN;omega
 rw[if_neg q]at h;by_cases s:x.kind=8
 ·rw[if_pos s]at h;cases h
 rw[if_neg s]at h;by_cases t:x.kind=9
 ·rw[if_pos t]at h;cases h
 rw[if_neg t]at h;by_cases d:x.kind=10
 ·rw[if_pos d]at h;cases h
 rw[if_neg d]at h;by_cases e:x.kind=11
 ·rw[if_pos e]at h;cases h
 rw[if_neg e]at h;by_cases i:x.kind=24
 ·rw[if_pos i]at h;cases h
 rw[if_neg i]at h;split at h
 ·cases h
 rename_i w b;simp only[Except.error.injEq]at h;subst h;exact yF b
theorem CB {u:aI} {to:Int} {a:List Vl} {M:cr} {k:Int} (h:iA u to a M=.error k):wN k:=by
 unfold iA at h;split at h
 ·simp only[Except.error.injEq]at h;unfold wN;omega
 cases h
theorem Af {u:aI} {x:dc} {b:List Vl} {fs:List cJ} {M:cr} {k:Int} (h:iI u x b fs M=.error k):wN k:=by
 unfold iI at h;simp only[pP]at h;repeat' split at h
 all_goals first
  | (cases h;done)
  | exact CB h
  | (rename_i e a;simp only[Except.error.injEq]at h;subst h;have:=oO a;unfold wN;omega)
  | (simp only[Except.error.injEq]at h;unfold wN;omega)
theorem BA {u:aI} {fs:List cJ} {f:cJ} {M:cr} {k:Int} (h:vn u fs f M=.error k):wN k:=by
 unfold vn at h;simp only at h;split at h
 ·simp only[Except.error.injEq]at h;unfold wN;omega
 split at h
 ·simp only[Except.error.injEq]at h;unfold wN;omega
 split at h
 ·exact Af h
 split at h
 ·rename_i e a;simp only[Except.error.injEq]at h;subst h;exact Et a
 cases h
theorem lX {u:aI} {n:Int} {M:cr}:(dA u n M).steps=M.steps:=by unfold dA;split<;>rfl
theorem yG {u:aI} {to:Int} {a:List Vl} {M M':cr} (h:iA u to a M=.ok M'):M'.steps=M.steps:=by
 unfold iA at h;split at h
 ·cases h
 simp only[Except.ok.injEq]at h;subst h;rfl
theorem CC {u:aI} {fs:List cJ} {f:cJ} {M M':cr} (h:vn u fs f M=.ok M'):M'.steps=M.steps:=by
 unfold vn at h;simp only at h;split at h
 ·cases h
 split at h
 ·cases h
 split at h
 ·unfold iI at h;simp only[pP]at h;repeat' split at h
  all_goals first
   | (cases h;done)
   | (have:=yG h;exact this)
   | (simp only[Except.ok.injEq]at h;subst h;first|rfl|exact lX)
 split at h
 ·cases h
 simp only[Except.ok.injEq]at h;subst h;rfl
theorem GV {u:aI} {s:Bool} (j:bS u) {M:cr} (h:kn u M) (d:jA u M.aq s):kn u (gG u M)/\jA u (gG u M).aq s:=by
 unfold gG;split
 ·exact⟨h,d⟩
 rename_i x;split
 ·exact⟨h,d⟩
 rename_i m b;have q:M.aq=M.aq.dropLast++[m]:=by
  have g:M.aq≠[]:=by intro t;rw[t]at b;cases b
  have:=List.dropLast_concat_getLast g;rw[List.getLast?_eq_some_getLast g]at b;simp only[v_]at b;rw[b]at this;exact this.symm
 have f:M.fin=0:=by omega
 have z:=h.steps;have up:∀ {N:cr},kn u N->N.steps=M.steps->kn u {N with steps:=N.steps+1}:=λ{N} a w =>
  ⟨by show 0<=N.steps+1/\N.steps+1<=200;omega,a.len,a.nf,a.mw,a.out,a.objs,a.low,a.jX,a.said,a.fin⟩
 split
 ·rename_i v e;obtain⟨c,o,p⟩:=My j h f q O O d e;exact⟨up c p,o⟩
 rename_i k e;split
 ·refine⟨⟨by show 0<=M.steps+1/\M.steps+1<=200;omega,h.len,h.nf,h.mw,h.out,h.objs,h.low,h.jX,h.said,?_⟩,d⟩;rcases h.fin with c|c|c
  ·exact .inl ⟨.inr rfl,c.2⟩
  ·omega
  omega
 rename_i y;have b:=BA e;have i:=yE j h f (n:=k) (by have:=h.len.1;unfold wN at b;omega) s;exact⟨up i.1 lX,i.2 d⟩
theorem Eu {cs:List dB} (ok:bX cs):bV cs 1=[1]:=by
 have d:=ok.1;have a:(1:Nat) < cs.length:=by omega
 have b:=ok.2.2 1 a;have c:bB cs 1=cs[1].bJ:=js a;rw[jf ok O O,c,(b.2.2.1 rfl).1,ez O];have:fZ cs 1=cs[1].fields:=by simp[fZ,a]
 rw[this,(b.2.2.1 rfl).2];rfl
theorem J1 {u:aI} (b:bS u):kn u (lW u)/\jA u (lW u).aq:=by
 have h:=b.bz (k:=0) (by have:=b.2.1.1;omega);have f:=h.1;have t:0<=(bz u 0).locals:=by have:=f.2.2.2.2.2;omega
 refine⟨⟨by simp[lW],by simp[lW,fM],by simp[lW],by simp[lW],mQ (by decide),λy d=>?_,λk p q=>?_,λj c=>?_,λn i=>(by cases i),.inl ⟨.inl rfl,by simp[lW],rfl⟩⟩,λo m k w e=>?_⟩
 ·simp only[lW,fM,List.mem_map,List.mem_range]at d;obtain⟨x,s,rfl⟩:=d;refine⟨λv a=>?_,.inr ⟨by simp[lV],by have:=b.1.1;simp only[lV];omega,by simp only[lV];rw[Eu b.1];rfl⟩⟩;simp only[lV,V_]at a;subst a;exact mQ O
 ·have g:k=1\/k=2\/k=3\/k=4\/k=5\/k=6\/k=7:=by omega
  rcases g with rfl|rfl|rfl|rfl|rfl|rfl|rfl<;>rfl
 ·simp only[lW,V_]at c;subst c;refine⟨⟨Z,by have:=b.2.1.1;simp only;omega⟩,⟨Z,Z⟩,by simp only[List.length_replicate];omega,Z,λv a=>?_,λv a=>by cases a⟩;rw[List.eq_of_mem_replicate a];exact mQ (by decide)
 have:=congrArg List.length e;simp[lW]at this;omega
structure Sx where
 objs:List Ob
 fs:List cJ
 f:cJ
 said:List Int
 steps:Int
 fin:Int
 out:Vl
 st:Bool
 ft:Int
def Sx.wO (x:Sx):cr:=⟨x.objs,x.fs++[x.f],x.said,x.steps,x.fin,x.out⟩
structure XM (h0 h:Heap) (bx:Nat) (us:List Value) (u:aI) (M:cr) (st:Bool) (ft:Int) (B:List Nat):Prop where
 ma:kz h0 h bx us [.bool st,.int .i64 ft] M B
 un:dn h0 us u
abbrev XS (h0 h:Heap) (bx:Nat) (us:List Value) (u:aI) (x:Sx) (B:List Nat):Prop:=XM h0 h bx us u x.wO x.st x.ft B
def Tp (h:Heap) (b n a:Nat):Prop:=∃ c,rd h b 3=some (.slice (some ⟨a,0,none⟩) (n+1) c)
def XR (h0 h:Heap) (a:Nat) (d:List Value) (u:aI) (B:List Nat) (y:Sx) (b:Heap):Prop:=∃ c,XS h0 b a d u y c/\Ev h b (a::B) (a::c)/\rd b a 3=rd h a 3
theorem XR.trans {h0 h b c:Heap} {a:Nat} {d:List Value} {u:aI} {B B1:List Nat} {y:Sx} (m:Ev h b (a::B) (a::B1)) (e:rd b a 3=rd h a 3) (o:XR h0 b a d u B1 y c):XR h0 h a d u B y c:=by
 obtain⟨f,g,i,j⟩:=o;exact⟨f,g,m.trans i,j.trans e⟩
theorem kz.GX {h0 h:Heap} {bm:Nat} {pre post:List Value} {M:cr} {B:List Nat} (f:kz h0 h bm pre post M B) :
  ∃ mc t,h bm=some (.cells (pre++mc++post).toArray t (0,0))/\mc.length=7/\∀ a,kz h0 (h.set bm (.cells (pre++mc++a).toArray t (0,0))) bm pre a M B/\Ev h (h.set bm (.cells (pre++mc++a).toArray t (0,0))) (bm::B) (bm::B):=by
 have s:=f;obtain⟨le,⟨mc,t,c,own⟩,nd,e⟩:=f;have o:bm ∉ B:=by
  intro d;have q:=W_.2 d;have i:=nd bm;simp only[X_,beq_self_eq_true,if_true]at i;omega
 have j:mc.length=7:=by obtain⟨_,_,_,_,_,_,rfl,_⟩:=own;rfl
 refine⟨mc,t,c,j,λa=>⟨⟨Heap.aT le (e bm Z),⟨mc,t,cY _ _ _,own.aK λb g u p=>?_⟩,nd,e⟩,⟨λb g m=>?_,λb c=>.inl c⟩⟩⟩
 ·have:b≠bm:=by rintro rfl;exact o g
  simp only[Heap.set,this,if_false];exact p
 have:b≠bm:=λd=>m (by simp[d]);simp only[Heap.set,this,if_false]
theorem XM.BB {h0 h:Heap} {b:Nat} {a:List Value} {u:aI} {M:cr} {st:Bool} {c:Int} {B:List Nat} (d:XM h0 h b a u M st c B):a.length=2:=by
 obtain⟨p,e,q,f,rfl,_⟩:=d.un.form;rfl
theorem XM.iP {h0 h:Heap} {a:Nat} {g:List Value} {u:aI} {M:cr} {st:Bool} {f:Int} {B:List Nat} (e:XM h0 h a g u M st f B) :
  rd h a 9=some (.bool st)/\rd h a 10=some (.int .i64 f)/\(∃ p c,rd h a 2=some (.slice p M.objs.length c))/\(∃ p c,rd h a 3=some (.slice p M.aq.length c))/\(∃ p c,rd h a 4=some (.slice p M.said.length c)) /\
   ∃ p c q d,g=[.slice p u.ak.length c,.slice q u.methods.length d]/\rd h a 0=some (.slice p u.ak.length c)/\rd h a 1=some (.slice q u.methods.length d)/\dP h a 0 2=some [.slice p u.ak.length c,.slice q u.methods.length d] /\
    eP h (.slice p u.ak.length c) u.ak/\Row 8 dz h (.slice q u.methods.length d) u.methods:=by
 obtain⟨z,C,A,D,b,⟨w,i,rfl⟩,⟨x,j,rfl⟩,⟨y,m,rfl⟩,_⟩:=e.ma.ints;have v:=e.un.le e.ma.le;obtain⟨p,o,q,d,rfl,s,t,_⟩:=v.form;exact⟨aY b rfl,aY b rfl,⟨w,i,aY b rfl⟩,⟨x,j,aY b rfl⟩,⟨y,m,aY b rfl⟩,p,o,q,d,rfl,aY b rfl,aY b rfl,bA b 2 0 Z,s,t⟩
theorem XM.Ew {h0 h:Heap} {c:Nat} {a:List Value} {u:aI} {M:cr} {st Ey:Bool} {f e:Int} {B:List Nat} {K:Heap->Prop} {i:Nat} {v:Value} (o:XM h0 h c a u M st f B)
  (p:(i=9/\v=.bool Ey/\e=f)\/(i=10/\v=.int .i64 e/\Ey=st))
  (y:∀ g,XM h0 g c a u M Ey e B->Ev h g (c::B) (c::B)->rd g c 3=rd h c 3->(∀ b,b≠c->g b=h b)->K g):St h c i [v] K:=by
 have m:=o.BB;obtain⟨d,F,j,q,E⟩:=o.ma.GX;obtain⟨C,D⟩:=E [.bool Ey,.int .i64 e];have A:eH (a++d++[.bool st,.int .i64 f]) i [v]=a++d++[.bool Ey,.int .i64 e]:=by
  have w:i=(a++d).length+(i-9):=by rcases p with ⟨rfl,_⟩|⟨rfl,_⟩<;>simp[m,q]
  have s:=kg (pre:=a++d) (x:=[.bool st,.int .i64 f]) (post:=[]) (n:=i) (i:=i-9) (v:=v) w (by rcases p with ⟨rfl,_⟩|⟨rfl,_⟩<;>simp);simp only[List.append_nil]at s;rw[s];rcases p with ⟨rfl,rfl,rfl⟩|⟨rfl,rfl,rfl⟩<;>rfl
 refine Go.Vc.st j (by simp[m,q];omega) ?_;rw[A];refine y _ ⟨C,o.un⟩ D ?_ (λb j=>by simp only[Heap.set,j,if_false]);have z:∀ t:List Value,(a++d++t)[3]? = d[1]?:=by
  intro t;rw[List.getElem?_append_left (by simp[m,q]),List.getElem?_append_right O,m]
 rw[wz];unfold rd;rw[j];show(a++d++[Value.bool Ey,Value.int .i64 e]).toArray[3]? = (a++d++[Value.bool st,Value.int .i64 f]).toArray[3]?;simp only[List.getElem?_toArray,z]
theorem XM.post {h0 h:Heap} {a:Nat} {e:List Value} {u:aI} {M:cr} {st Ey:Bool} {d c:Int} {B:List Nat} {K:Heap->Prop} {i:Nat} {v:Value} (m:XM h0 h a e u M st d B)
  (o:(i=9/\v=.bool Ey/\c=d)\/(i=10/\v=.int .i64 c/\Ey=st))
  (p:∀ b,XM h0 b a e u M Ey c B->Ev h b (a::B) (a::B)->rd b a 3=rd h a 3->K b):St h a i [v] K:=m.Ew o (λb f g j _=>p b f g j)
theorem XM.stuck {h0 h:Heap} {a:Nat} {d:List Value} {u:aI} {M:cr} {st:Bool} {c:Int} {B:List Nat} {K:Heap->Prop} (e:XM h0 h a d u M st c B)
  (f:∀ b,XM h0 b a d u M true c B->Ev h b (a::B) (a::B)->rd b a 3=rd h a 3->K b):St h a 9 [.bool true] K:=e.post (.inl ⟨rfl,rfl,rfl⟩) f
theorem XM.fault {h0 h:Heap} {a:Nat} {c:List Value} {u:aI} {M:cr} {st:Bool} {d k:Int} {B:List Nat} {K:Heap->Prop} (e:XM h0 h a c u M st d B)
  (f:∀ b,XM h0 b a c u M st k B->Ev h b (a::B) (a::B)->rd b a 3=rd h a 3->K b):St h a 10 [.int .i64 k] K:=e.post (.inr ⟨rfl,rfl,rfl⟩) f
theorem XS.tp {h0 h:Heap} {b:Nat} {g:List Value} {u:aI} {x:Sx} {B:List Nat} (c:XS h0 h b g u x B):∃ a,Tp h b x.fs.length a:=by
 obtain⟨w,y,a,d,p,t,q,r,s,v,o,j,m,e,_⟩:=c.ma.top (fs:=x.fs) (f:=x.f) rfl;exact⟨a,d,cX e (i:=1) (by rw[c.BB]) rfl⟩
theorem XS.lens {h0 h:Heap} {a:Nat} {E:List Value} {u:aI} {x:Sx} {B:List Nat} {e:Nat} (w:XS h0 h a E u x B) (P:Tp h a x.fs.length e) :
  ∃ t q r m p B1 c,h e=some (.cells (q++[.int .i64 x.f.aG,.int .i64 x.f.pc,m,p]++r).toArray t (0,0))/\q.length=x.fs.length*4/\dx h m x.f.locals B1/\dx h p x.f.stack c/\Nd (B1++c)/\(∀ b∈e::(B1++c),h0 b=none/\b∈B) /\
   (∀ b,b∈B1++c->b≠e/\b≠a)/\e≠a /\
   ∀ d f' o s g j,d e=some (.cells (q++[.int .i64 f'.aG,.int .i64 f'.pc,o,s]++r).toArray t (0,0))->(∀ b,b ∉ e::(B1++c)->h b≠none->d b=h b)->dx d o f'.locals g->dx d s f'.stack j ->
    (∀ b∈g++j,b∈B1++c\/h b=none)->Nd (g++j)->XR h0 h a E u B {x with f:=f' } d:=by
 obtain⟨tm,vo,vs,G,H,t,q,r,m,p,B1,c,z,K,N,X,Y,nd,M,A,D,nV⟩:=w.ma.lens (fs:=x.fs) (f:=x.f) rfl;obtain⟨c0,Q⟩:=P;have v:rd h a 3=some (.slice (some ⟨G,0,none⟩) (x.fs.length+1) H):=cX z (i:=1) (by rw[w.BB]) rfl;rw[Q]at v;simp only[v_,Z_,Addr.mk.injEq,and_true,true_and]at v;obtain⟨rfl,rfl⟩:=v;refine⟨t,q,r,m,p,B1,c,K,N,X,Y,nd,M,A,D,?_⟩;intro d f' o s g j R C S T V W;obtain⟨F,J,I⟩:=nV d f' o s g j R C S T V W;refine⟨F,⟨J,w.un⟩,I,?_⟩;have L:d a=h a:=C a (by simp only[List.mem_cons,not_or];exact⟨λy=>D y.symm,λy=>(A _ y).2 rfl⟩) (by rw[z];simp);unfold rd;rw[L]
theorem XS.cA {h0 h:Heap} {C:Nat} {P:List Value} {u:aI} {x:Sx} {B:List Nat} {d:Nat} (R:XS h0 h C P u x B) (W:Tp h C x.fs.length d) :
  ∃ t q r v s o e,h d=some (.cells (q++[.int .i64 x.f.aG,.int .i64 x.f.pc,v,.slice s (x.f.stack.map dO).length o]++r).toArray t (0,0))/\q.length=x.fs.length*4/\dx h (.slice s (x.f.stack.map dO).length o) x.f.stack e/\(∀ b∈e,h0 b=none) /\
   rd h d (x.fs.length*4+3)=some (.slice s (x.f.stack.map dO).length o) /\
   ∀ g A m w z,(∀ b,b ∉ e->h b≠none->g b=h b)->dx g A w m->(∀ b∈m,b∈e\/h b=none) ->
    g d=h d/\XR h0 h C P u B {x with f:={x.f with pc:=z,stack:=w } } (g.set d (.cells (q++[.int .i64 x.f.aG,.int .i64 z,v,A]++r).toArray t (0,0))):=by
 obtain⟨t,q,r,v,v2,G,e,y,I,M,N,nd,T,H,Xr,Y⟩:=R.lens W;obtain⟨s,o,rfl,CD⟩:=N.form;refine⟨t,q,r,v,s,o,e,y,I,N,λb c=>(T b (by simp;grind)).1,cX y (i:=3) (by rw[I]) rfl,?_⟩;intro g A m w z E J F;have K:d ∉ e:=λa=>(H d (by simp[a])).1 rfl;have S:∀ b,b∈G->b ∉ e:=by
  intro b g Q;have:=nd b;have:=W_.2 g;have:=W_.2 Q;simp only[Y_]at *;omega
 have X:∀ b∈m,b≠d:=by
  intro b c;rcases F b c with a|a
  ·rintro rfl;exact K a
  rintro rfl;rw[y]at a;cases a
 refine⟨E d K (by rw[y];simp),?_⟩;refine Y _ {x.f with pc:=z,stack:=w } v A G m ?_ ?_ ?_ ?_ ?_ ?_
 ·simp[Heap.set]
 ·intro b c V;have D:b≠d:=λa=>c (by simp[a]);simp only[Heap.set,D,if_false];exact E b (λa=>c (by simp[a])) V
 ·refine M.aK λb c L j=>?_;have D:=(H b (by simp[c])).1;simp only[Heap.set,D,if_false];rw[E b (S b c) (by rw[j];simp)];exact j
 ·refine J.aK λb c L j=>?_;simp only[Heap.set,X b c,if_false];exact j
 ·intro b c;rcases u_.1 c with a|a
  ·exact .inl (by simp[a])
  rcases F b a with p|p
  ·exact .inl (by simp[p])
  exact .inr p
 refine Nd.swap nd J.nd λb c=>?_;rcases F b c with a|a
 ·exact .inl a
 refine .inr λp=>?_;obtain⟨L,j⟩:=M.in b p;rw[a]at j;cases j
theorem pT {h0 h:Heap} {a:Nat} {d:List Value} {u:aI} {x:Sx} {B:List Nat} {c:Nat} (f:XS h0 h a d u x B) (b:Tp h a x.fs.length c) (g:x.fs.length<=1000) :
  Pure prog 188 [.pointer (some ⟨a,0,none⟩)] h (.pointer (some ⟨c,x.fs.length*4,none⟩)):=by
 obtain⟨e,b⟩:=b;refine gF ax func188 QT U rfl ?_;conv=>whnf
 repeat' ((first|refine ld b ?_|refine ay ?_|refine av ?_|refine ptr ?_)<;>conv=>whnf)
 refine⟨?_,rfl⟩;have:0+(((x.fs.length+1:Nat):Int)-1).toNat*4=x.fs.length*4:=by omega
 rw[this]
def cT (x:Sx) (v:Vl):Sx:=if 4<=x.f.stack.length then {x with st:=true}else {x with f:={x.f with stack:=x.f.stack++[v]} }
def aU (x:Sx):Vl × Sx:=match x.f.stack.getLast? with
 | none=>(dy,{x with st:=true})
 | some v=>(v,{x with f:={x.f with stack:=x.f.stack.dropLast} })
def aD (x:Sx):Int × Sx:=if (aU x).1.ref=true then (0,{ (aU x).2 with st:=true})else ((aU x).1.n,(aU x).2)
def aE (x:Sx):Int × Sx:=if (aU x).1.ref=true then ((aU x).1.n,(aU x).2)else (0,{ (aU x).2 with st:=true})
def cj (x:Sx) (k:Int):Sx:=if x.ft=0 then {x with ft:=k}else x
def Sx.bad (x:Sx):Prop:=x.st=true\/0 < x.ft
instance (x:Sx):Decidable x.bad:=inferInstanceAs (Decidable (_\/_))
def eR (u:aI) (c k:Int):Bool:=(decide (k < 0) && !decide (c=k))||(decide (0<=k) && !(decide (0<=c)&&up u.ak c k))
def aZ (u:aI) (x:Sx) (n k:Int):Sx:=if x.bad then x else if n=0 then cj x 2 else if eR u (aM x.objs n).cls k=true then {x with st:=true}else x
def gH (x:Sx) (o:Ob):Sx:=if x.bad then x else cT {x with objs:=x.objs++[o]} ⟨true,x.objs.length+1⟩
def Ag (u:aI) (x:Sx) (k:Int):Sx:=gH x ⟨k,(bV u.ak k).map nothing⟩
def jB (k n:Int):Ob:=⟨-1-k,List.replicate (min n 6).toNat ⟨decide (k=1),0⟩⟩
def ko (x:Sx) (k:Int):Sx:=gH (if 0<=(aD x).1/\(aD x).1<=6 then (aD x).2 else cj (aD x).2 4) (jB k (aD x).1)
def Ez (x:Sx) (c:Int):Sx :=
 let b:=aD x
 let a:=aD b.2
 if (gI c a.1 b.1).2=true then cT a.2 ⟨false,(gI c a.1 b.1).1⟩else cj a.2 1
def oq (x:Sx):Sx :=
 let r:=aE x
 if 0 < r.1/\r.2.st=false/\0<=(aM r.2.objs r.1).cls then {r.2 with st:=true}else if r.1=0 then cj r.2 2 else cT r.2 ⟨false,(aM r.2.objs r.1).bp.length⟩
def CE (x:Sx) (n i:Int) (v:Vl):Sx:={x with objs:=gU x.objs n (putAt (aM x.objs n).bp i v)}
def pU (u:aI) (x:Sx) (k:Int) (set:Bool):Sx :=
 let p:=if set=true then aU x else (dy,x)
 let w:=aD p.2
 let r:=aE w.2
 let y:=aZ u r.2 r.1 (-1-k)
 if y.bad then y else if ¬(0<=w.1/\w.1 < (aM y.objs r.1).bp.length)then cj y 3 else if set=true then CE y r.1 w.1 p.1 else cT y ((aM y.objs r.1).bp.getD w.1.toNat dy)
def lY (u:aI) (x:Sx) (k i:Int) (set:Bool):Sx :=
 let p:=if set=true then aU x else (dy,x)
 let r:=aE p.2
 let y:=aZ u r.2 r.1 k
 if y.bad then y else if set=true then CE y r.1 i p.1 else cT y ((aM y.objs r.1).bp.getD i.toNat dy)
def ox (u:aI) (x:Sx) (k:Int):Sx :=
 let r:=aE x
 if r.2.st=true then r.2 else if 0 < r.1/\dQ u.ak (typeOf (aM r.2.objs r.1).cls) (8+k)=false then cj r.2 5 else cT r.2 ⟨true,r.1⟩
theorem kQ {x:Sx} {v:Vl} (h:4<=x.f.stack.length):cT x v = {x with st:=true}:=if_pos h
theorem mR {x:Sx} {v:Vl} (h:x.f.stack.length < 4):cT x v = {x with f:={x.f with stack:=x.f.stack++[v]} }:=if_neg O
theorem pV {x:Sx} (h:x.f.stack=[]):aU x=(dy,{x with st:=true}):=by unfold aU;rw[h];rfl
theorem e8 {x:Sx} {l:List Vl} {v:Vl} (h:x.f.stack=l++[v]):aU x=(v,{x with f:={x.f with stack:=l} }):=by unfold aU;rw[h];simp
theorem iY (x:Sx):(aU x).2.fs=x.fs/\(aU x).2.objs=x.objs/\(aU x).2.f.stack.length<=x.f.stack.length/\(aU x).2.f.locals=x.f.locals:=by
 rcases List.eq_nil_or_concat x.f.stack with h|⟨l,v,h⟩
 ·rw[pV h];simp
 rw[List.concat_eq_append]at h;rw[e8 h,h];simp
theorem gL (x:Sx):(aE x).2.fs=x.fs/\(aE x).2.objs=x.objs/\(aE x).2.f.stack.length<=x.f.stack.length/\(aE x).2.f.locals=x.f.locals:=by
 unfold aE;split<;>exact iY x
def IK (v:Vl):Value:=.agg #[.bool v.ref,.int .i64 v.n]
theorem jC {h0 h:Heap} {c:Nat} {m:List Value} {u:aI} {x:Sx} {B:List Nat} (a:XS h0 h c m u x B) (F:x.fs.length<=1000) (T:x.f.stack.length<=1000) (v:Vl) :
  bq prog 224 [.pointer (some ⟨c,0,none⟩),IK v] h λ_ z=>XR h0 h c m u B (cT x v) z:=by
 obtain⟨M,g⟩:=a.tp;obtain⟨X,W,r,v1,V,N,L,D,G,I,E,j,K⟩:=a.cA g;have hle:=a.ma.le;have S:=fj dO x.f.stack;have H:=pT a g F;refine bE ax func224 Rd U rfl ?_;conv=>whnf
 refine au H ?_;conv=>whnf
 refine ld j ?_;conv=>whnf
 apply aC<;>intro s;all_goals conv=>whnf
 ·refine a.stuck (λd C p b=>?_);conv=>whnf
  rw[kQ O];exact⟨B,C,p,b⟩
 repeat' ((first|exact trivial|refine ld j ?_|apply T_)<;>conv=>whnf)
 all_goals
  refine dh (h0:=h0) (ys:=[dO v]) I E hle rfl rfl (by simp[dO]) rfl rfl (by simp;omega) (by simp;omega) ?_;intro Y d e P f Q w y;have q:=f.form;obtain⟨J,o,rfl,R⟩:=q;have t:dx d (.slice J (x.f.stack.map dO++[dO v]).length o) (x.f.stack++[v]) e:=by unfold dx;rw[List.map_append];exact f
  obtain⟨b,A⟩:=K d _ e (x.f.stack++[v]) x.f.pc w t y;rw[D]at b;conv=>whnf
  repeat' ((first|refine st b (by simp;omega) ?_)<;>conv=>whnf)
  rw[JS (i:=3) (by rw[G]) Z,mR O];exact A
theorem EA {h0 h:Heap} {d:Nat} {G:List Value} {u:aI} {x:Sx} {B:List Nat} (e:XS h0 h d G u x B) (V:x.fs.length<=1000) (hs:x.f.stack.length<=1000) :
  bq prog 223 [.pointer (some ⟨d,0,none⟩)] h λv y=>v=IK (aU x).1/\XR h0 h d G u B (aU x).2 y/\∀ a,Tp h d x.fs.length a->rd y a (x.fs.length*4+2)=rd h a (x.fs.length*4+2):=by
 obtain⟨a,m⟩:=e.tp;have E:∀ b,Tp h d x.fs.length b->b=a:=by
  rintro b ⟨c1,p⟩;obtain⟨j,q⟩:=m;rw[p]at q;simp only[v_,Z_,Addr.mk.injEq,and_true,true_and]at q;exact q.1
 have P:a≠d:=by
  obtain⟨_,_,_,_,_,_,_,_,_,_,_,_,_,_,W,_⟩:=e.lens m;exact W
 obtain⟨ab,Y,r,H,p2,j,B2,z,hq,s,J2,t,nV⟩:=e.cA m;have hle:=e.ma.le;have hlen:=fj dO x.f.stack;have D:=pT e m V;rcases List.eq_nil_or_concat x.f.stack with C|⟨l,I,g⟩
 ·have h0:(List.map dO x.f.stack).length=0:=by rw[C];rfl
  refine bE ax func223 JL Iu rfl ?_;conv=>whnf
  refine au D ?_;conv=>whnf
  refine ld t ?_;conv=>whnf
  refine dm ?_;conv=>whnf
  refine e.Ew (Ey:=true) (.inl ⟨rfl,rfl,rfl⟩) (λh1 N L J p=>?_);conv=>whnf
  rw[pV C];exact⟨rfl,⟨B,N,L,J⟩,λb f=>by rw[E b f];unfold rd;rw[p a P]⟩
 rw[List.concat_eq_append]at g;have jq:x.f.stack.length=l.length+1:=by rw[g];simp
 have T:l.length < x.f.stack.length:=by omega
 obtain⟨c,rfl,F,_,rfl,_⟩:=s.two T;have R:x.f.stack[l.length]=I:=by simp[g]
 rw[R]at F;have w:(((List.map dO x.f.stack).length:Int)-1).toNat=l.length:=by omega
 have RL:dP h c (0+(((List.map dO x.f.stack).length:Int)-1).toNat*2) 2=some (dO I):=by rw[w];exact F
 have Q:=s.form;obtain⟨_,_,A,CD⟩:=Q;simp only[Z_]at A;obtain⟨_,_,rfl⟩:=A;have X:dx h (.slice (some ⟨c,0,none⟩) l.length j) l [c]:=by
  have:=bY.first (l:=l.length) s O;have K:(List.map dO x.f.stack).take l.length=l.map dO:=by rw[g];simp
  rw[K]at this;exact this
 have o:=(nV h _ [c] l x.f.pc (λ_ _ _=>rfl) X (λaa f=>.inl f)).2;rw[<-w]at o;refine bE ax func223 JL Iu rfl ?_;conv=>whnf
 refine au D ?_;conv=>whnf
 refine ld t ?_;conv=>whnf
 refine bZ ?_;conv=>whnf
 repeat' ((first|refine ld t ?_|refine dZ RL ?_|refine ay ?_|refine av ?_|refine ptr ?_)<;>conv=>whnf)
 refine qU z (i:=3) [.int .i64 x.f.aG,.int .i64 x.f.pc,H,.slice (some ⟨c,0,none⟩) (((List.map dO x.f.stack).length:Int)-1).toNat j] O Z rfl (λh9 S M=>?_);rw[<-S]at o;conv=>whnf
 rw[e8 g];refine⟨rfl,o,λb f=>?_⟩;rw[E b f,cX z (i:=2) O rfl];exact cX (pre:=Y) (x:=[.int .i64 x.f.aG,.int .i64 x.f.pc,H,.slice (some ⟨c,0,none⟩) (((List.map dO x.f.stack).length:Int)-1).toNat j]) (post:=r) M (i:=2) O rfl
theorem tP {h0 h:Heap} {a:Nat} {c:List Value} {u:aI} {x:Sx} {B:List Nat} (e:XS h0 h a c u x B) (f:x.fs.length<=1000) (g:x.f.stack.length<=1000) :
  bq prog 223 [.pointer (some ⟨a,0,none⟩)] h λv d=>v=IK (aU x).1/\XR h0 h a c u B (aU x).2 d:=(EA e f g).mono λ_ _ b=>⟨b.1,b.2.1⟩
structure iQ (u:aI) (x:Sx):Prop where
 len:7<=x.objs.length/\x.objs.length<=300
 uF:∀ o∈x.objs,Em u x.objs.length o
 nf:x.fs.length<=3
 jX:tM u x.objs.length x.f
 ft:0<=x.ft
theorem tM.cA {u:aI} {n:Nat} {f:cJ} (h:tM u n f) {l:List Vl} (a:l.length<=4) (b:∀ v∈l,jz n v):tM u n {f with stack:=l}:=⟨h.1,h.2.1,h.2.2.1,a,h.2.2.2.2.1,b⟩
theorem iQ.stuck {u:aI} {x:Sx} (h:iQ u x):iQ u {x with st:=true}:=⟨h.len,h.uF,h.nf,h.jX,h.ft⟩
theorem iQ.pop {u:aI} {x:Sx} (h:iQ u x):iQ u (aU x).2/\jz x.objs.length (aU x).1:=by
 rcases List.eq_nil_or_concat x.f.stack with a|⟨l,v,a⟩
 ·rw[pV a];exact⟨h.stuck,mQ (by decide)⟩
 rw[List.concat_eq_append]at a;rw[e8 a];have c:=h.jX.2.2.2.1;have b:=h.jX.2.2.2.2.2;rw[a]at c b;exact⟨⟨h.len,h.uF,h.nf,h.jX.cA (by simp at c;omega) (λw d=>b w (by simp[d])),h.ft⟩,b v Z⟩
theorem iQ.word {u:aI} {x:Sx} (h:iQ u x):iQ u (aD x).2/\-128<=(aD x).1/\(aD x).1<=127:=by
 have a:=h.pop;unfold aD;split
 ·exact⟨a.1.stuck,Z⟩
 rename_i b;exact⟨a.1,eU.1 (a.2.2 (by simpa using b))⟩
theorem iQ.ref {u:aI} {x:Sx} (h:iQ u x):iQ u (aE x).2/\0<=(aE x).1/\(aE x).1<=x.objs.length:=by
 have a:=h.pop;unfold aE;split
 ·rename_i b;exact⟨a.1,a.2.1 b⟩
 exact⟨a.1.stuck,Z⟩
theorem iQ.MB {u:aI} {x:Sx} (h:iQ u x) {k:Int} (a:0<=k):iQ u (cj x k):=by
 unfold cj;split
 ·exact⟨h.len,h.uF,h.nf,h.jX,a⟩
 exact h
theorem iQ.push {u:aI} {x:Sx} (h:iQ u x) {v:Vl} (b:jz x.objs.length v):iQ u (cT x v):=by
 unfold cT;split
 ·exact h.stuck
 refine⟨h.len,h.uF,h.nf,h.jX.cA (by simp;omega) (λw a=>?_),h.ft⟩;simp only[u_,V_]at a;rcases a with a|rfl
 ·exact h.jX.2.2.2.2.2 w a
 exact b
theorem XM.mono {h0 h b:Heap} {a:Nat} {i:List Value} {u:aI} {M:cr} {g:Bool} {e:Int} {B:List Nat} (c:XM h0 h a i u M g e B) (d:h.le b):XM h0 b a i u M g e B/\Ev h b (a::B) (a::B)/\rd b a 3=rd h a 3:=by
 obtain⟨_,_,_,⟨p,o,f⟩,_⟩:=c.iP;exact⟨⟨c.ma.mono d,c.un⟩,Ev.of_le d _ (λm j=>.inl j),by rw[f,cW d f]⟩
theorem kq {h0 h:Heap} {b:Nat} {i:List Value} {u:aI} {x:Sx} {B:List Nat} (p:XS h0 h b i u x B) (f:iQ u x) :
  bq prog 226 [.pointer (some ⟨b,0,none⟩)] h λv o=>v=.int .i64 (aD x).1/\XR h0 h b i u B (aD x).2 o:=by
 have s:=tP p (by have:=f.nf;omega) (by have:=f.jX.2.2.2.1;omega);refine bE ax func226 Re U rfl ?_;conv=>whnf
 refine aB s (λv w e=>?_);have t:=e.1;subst t;refine e.2.elim λc a=>?_;have d:=a.1;conv=>whnf
 apply fh<;>intro g;all_goals conv=>whnf
 ·refine d.stuck (λy q m j=>?_);conv=>whnf
  unfold aD;rw[if_pos g];exact⟨rfl,c,q,a.2.1.trans m,j.trans a.2.2⟩
 unfold aD;rw[if_neg (by rw[g];simp)];exact⟨rfl,c,d,a.2⟩
theorem rO {h0 h:Heap} {b:Nat} {i:List Value} {u:aI} {x:Sx} {B:List Nat} (p:XS h0 h b i u x B) (f:iQ u x) :
  bq prog 186 [.pointer (some ⟨b,0,none⟩)] h λv o=>v=.int .i64 (aE x).1/\XR h0 h b i u B (aE x).2 o:=by
 have s:=tP p (by have:=f.nf;omega) (by have:=f.jX.2.2.2.1;omega);refine bE ax func186 QO U rfl ?_;conv=>whnf
 refine aB s (λv w e=>?_);have t:=e.1;subst t;refine e.2.elim λc a=>?_;have d:=a.1;conv=>whnf
 apply dG<;>intro g;all_goals conv=>whnf
 ·refine d.stuck (λy q m j=>?_);conv=>whnf
  unfold aE;rw[if_neg (by rw[g];simp)];exact⟨rfl,c,q,a.2.1.trans m,j.trans a.2.2⟩
 unfold aE;rw[if_pos g];exact⟨rfl,c,d,a.2⟩
theorem iq {h0 h:Heap} {a:Nat} {c:List Value} {u:aI} {x:Sx} {B:List Nat} (b:XS h0 h a c u x B) (k:Int) :
  bq prog 187 [.pointer (some ⟨a,0,none⟩),.int .i64 k] h λ_ f=>XR h0 h a c u B (cj x k) f:=by
 obtain⟨_,j,_⟩:=b.iP;refine bE ax func187 QS U rfl ?_;conv=>whnf
 refine ld j ?_;conv=>whnf
 apply aC<;>intro g;all_goals conv=>whnf
 ·refine b.fault (λm i e d=>?_);conv=>whnf
  unfold cj;rw[if_pos g];exact⟨B,i,e,d⟩
 unfold cj;rw[if_neg g];exact⟨B,b,Ev.refl _ _,rfl⟩
theorem XS.mO {h0 h:Heap} {a:Nat} {s:List Value} {u:aI} {x:Sx} {B:List Nat} (g:XS h0 h a s u x B) {n:Int} (K:0 < n) (L:n<=x.objs.length) :
  ∃ f c v Bi,rd h a 2=some (.slice (some ⟨f,0,none⟩) x.objs.length c)/\rd h f (0+(n-1).toNat*2)=some (.int .i64 (aM x.objs n).cls)/\rd h f (0+(n-1).toNat*2+1)=some v/\dx h v (aM x.objs n).bp Bi /\
   ∀ d e,dx d v e Bi->(∀ b,b ∉ Bi->h b≠none->d b=h b)->XR h0 h a s u B {x with objs:=gU x.objs n e } d:=by
 have m:(n-1).toNat < x.objs.length:=by omega
 obtain⟨f,c,S,T,V,Q,r,R,v,Bi,w,z,N,I,y,M,D,J⟩:=g.ma.obj (tK x.objs m);have P:(x.objs.take (n-1).toNat).length=(n-1).toNat:=by simp;omega
 have o:aM x.objs n=x.objs[(n-1).toNat]:=wG m O;refine⟨f,c,v,Bi,cX w (i:=0) (by rw[g.BB]) rfl,by rw[o];exact cX z (i:=0) O rfl,cX z (i:=1) O rfl,by rw[o];exact I,λd e H q=>?_⟩;obtain⟨t,A,F⟩:=J d e H q;have G:gU x.objs n e=x.objs.take (n-1).toNat++{x.objs[(n-1).toNat]with bp:=e }::x.objs.drop ((n-1).toNat+1):=by
  unfold gU;rw[o,List.set_eq_take_append_cons_drop,if_pos m]
 have E:d a=h a:=by
  refine q a (λp=>?_) (by rw[w];simp);exact D (y _ p).1
 refine⟨t,⟨?_,g.un⟩,⟨λb j C=>q b (λp=>C (by simp[(y b p).1])) j,λb j=>.inl ((F b).1 j)⟩,by unfold rd;rw[E]⟩;show kz h0 d a s _ ⟨gU x.objs n e,_,_,_,_,_⟩ t;rw[G];exact A
theorem pW {h0 h:Heap} {f:Nat} {us:List Value} {u:aI} {x:Sx} {B:List Nat} (t:XS h0 h f us u x B) (M:iQ u x) (ok:bX u.ak) (n k:Int) (hn:0<=n/\n<=x.objs.length) (hk : -2<=k) :
  bq prog 225 [.pointer (some ⟨f,0,none⟩),.int .i64 n,.int .i64 k] h λv Y=>XR h0 h f us u B (aZ u x n k) Y/\(∃ A on,v=.pointer (some ⟨A,on,none⟩)) /\
   (¬(aZ u x n k).bad->0 < n/\aZ u x n k=x/\∃ s c,rd Y f 2=some (.slice (some ⟨s,0,none⟩) x.objs.length c)/\v=.pointer (some ⟨s,0+(n-1).toNat*2,none⟩)):=by
 obtain⟨J,I,_,_,_,H,C,N,L,rfl,r0,r1,UJ,hcs,lR⟩:=t.iP;have hl:=M.len.2;by_cases m:x.bad
 ·have o:aZ u x n k=x:=if_pos m;rw[o];refine bE ax func225 GG DW rfl ?_;conv=>whnf
  refine cZ [.int .i64 0,.slice none 0 0] rfl (λA d E R b T=>?_);have g:=t.mono b;have q:XS h0 d f _ u x B:=g.1;have z:=cW b J;have y:=cW b I;conv=>whnf
  refine ld z ?_;conv=>whnf
  have S:XR h0 h f [.slice H u.ak.length C,.slice N u.methods.length L] u B x d:=⟨B,q,g.2⟩
  apply fh<;>intro i;all_goals conv=>whnf
  ·exact⟨S,⟨_,_,rfl⟩,λa=>absurd m a⟩
  have F:0 < x.ft:=by
   rcases m with D|D
   ·rw[i]at D;cases D
   exact D
  refine ld y ?_;conv=>whnf
  refine fD F ?_;conv=>whnf
  exact⟨S,⟨_,_,rfl⟩,λa=>absurd m a⟩
 have pS:x.st=false:=by
  cases e:x.st with
  | false=>rfl
  | true=>exact absurd (.inl e) m
 have F:x.ft=0:=by
  have:=M.ft;have:¬0 < x.ft:=λa=>m (.inr a);omega
 rw[pS]at J;rw[F]at I;by_cases G:n=0
 ·have o:aZ u x n k=cj x 2:=by unfold aZ;rw[if_neg m,if_pos G]
  have Xs:(cj x 2).bad:=.inr (by unfold cj;rw[if_pos F];show(0:Int) < 2;omega);rw[o];refine bE ax func225 GG DW rfl ?_;conv=>whnf
  refine cZ [.int .i64 0,.slice none 0 0] rfl (λA d E R b T=>?_);have g:=t.mono b;have q:XS h0 d f _ u x B:=g.1;have z:=cW b J;have y:=cW b I;conv=>whnf
  repeat' ((first|refine ld z ?_|refine ld y ?_|refine ay ?_|refine av ?_|refine ptr ?_)<;>conv=>whnf)
  refine fD G ?_;conv=>whnf
  refine aB (iq q 2) (λv j e=>?_);conv=>whnf
  exact⟨e.trans g.2.1 g.2.2,⟨_,_,rfl⟩,λa=>absurd Xs a⟩
 have Lv:=t.mO (n:=n) O hn.2;obtain⟨s,c,v,Bi,q2,q3,_,_,_⟩:=Lv;have hO:=M.uF _ (fO (objs:=x.objs) (n:=n) O hn.2);have su : -2<=(aM x.objs n).cls/\(aM x.objs n).cls < u.ak.length:=by
  rcases hO.2 with ⟨j,_⟩|⟨j,h3,_⟩
  ·have:=ok.1;omega
  omega
 have o:aZ u x n k=if eR u (aM x.objs n).cls k=true then {x with st:=true}else x:=by unfold aZ;rw[if_neg m,if_neg G]
 generalize (aM x.objs n).cls=p at q3 su o;have E:eR u p k=true->aZ u x n k = {x with st:=true}:=λa=>by rw[o,if_pos a]
 have sG:eR u p k=false->aZ u x n k=x:=λa=>by rw[o,if_neg (by rw[a];simp)]
 have By:=λ(d:Heap) (b:h.le d) (c0:0<=p) (k0:0<=k)=>oH H u.ak.length C u.ak p k d (hcs.le b (λ_ _ a=>a.le b)) ok O O k0;refine bE ax func225 GG DW rfl ?_;conv=>whnf
 refine cZ [.int .i64 0,.slice none 0 0] rfl (λA d uN R b T=>?_);have g:=t.mono b;have q:XS h0 d f _ u x B:=g.1;have z:=cW b J;have y:=cW b I;have RM:=cW b r0;have P:=cW b q2;have Q:=cW b q3;have bad:eR u p k=true->∀ K:Heap->Prop,(∀ j,(XR h0 h f [.slice H u.ak.length C,.slice N u.methods.length L] u B (aZ u x n k) j/\(aZ u x n k).bad)->K j)->St d f 9 [.bool true] K:=λa K hk =>
  q.stuck (λj zz RN e2=>hk j (by rw[E a];exact⟨⟨B,zz,g.2.1.trans RN,e2.trans g.2.2⟩,.inl rfl⟩))
 have X:eR u p k=false->XR h0 h f [.slice H u.ak.length C,.slice N u.methods.length L] u B (aZ u x n k) d/\aZ u x n k=x:=λa=>by rw[sG a];exact⟨⟨B,q,g.2⟩,rfl⟩
 have GY:0+((n:Int)-1).toNat*2=0+(n-1).toNat*2:=rfl;clear E sG o hO;conv=>whnf
 repeat' ((first|refine ld z ?_|refine ld y ?_|refine ay ?_|refine av ?_|refine ptr ?_)<;>conv=>whnf)
 refine cu G ?_;conv=>whnf
 repeat' ((first|refine ld P ?_|refine ay ?_|refine av ?_|refine ptr ?_)<;>conv=>whnf)
 apply aC<;>intro W;all_goals conv=>whnf
 ·repeat' ((first|refine ld Q ?_|refine ay ?_|refine av ?_|refine ptr ?_)<;>conv=>whnf)
  apply aX<;>intro i;all_goals conv=>whnf
  ·refine bad (by simp[eR,W,i]) _ (λj e=>?_);conv=>whnf
   exact⟨e.1,⟨_,_,rfl⟩,λa=>absurd e.2 a⟩
  repeat' ((first|refine bZ ?_|refine dm ?_)<;>conv=>whnf)
  have w:=X (by simp[eR,i];omega);exact⟨w.1,⟨_,_,rfl⟩,λ_=>⟨O,w.2,s,c,P,rfl⟩⟩
 repeat' ((first|refine bZ ?_|refine dm ?_)<;>conv=>whnf)
 repeat' ((first|refine ld Q ?_|refine ay ?_|refine av ?_|refine ptr ?_)<;>conv=>whnf)
 apply aC<;>intro V;all_goals conv=>whnf
 ·repeat' ((first|refine ld RM ?_|refine ld Q ?_|refine ay ?_|refine av ?_|refine ptr ?_)<;>conv=>whnf)
  refine aP (By d b V O) ?_;conv=>whnf
  apply dG<;>intro i;all_goals conv=>whnf
  ·refine bad (by simp[eR,i];omega) _ (λj e=>?_);conv=>whnf
   exact⟨e.1,⟨_,_,rfl⟩,λa=>absurd e.2 a⟩
  have w:=X (by simp[eR,i];omega);exact⟨w.1,⟨_,_,rfl⟩,λ_=>⟨O,w.2,s,c,P,rfl⟩⟩
 repeat' ((first|refine bZ ?_|refine dm ?_)<;>conv=>whnf)
 refine bad (by simp[eR];omega) _ (λj e=>?_);conv=>whnf
 exact⟨e.1,⟨_,_,rfl⟩,λa=>absurd e.2 a⟩
theorem kR (n:Int) (h:Heap):Pure prog 60 [.int .i64 n] h (IK ⟨false,n⟩):=by
 refine gF ax func60 WL U rfl ?_;conv=>whnf
 exact⟨rfl,rfl⟩
theorem jD (n:Int) (h:Heap):Pure prog 144 [.int .i64 n] h (IK ⟨true,n⟩):=by
 refine gF ax func144 Qg U rfl ?_;conv=>whnf
 exact⟨rfl,rfl⟩
theorem wP (t:Int) (h:Heap):Pure prog 260 [.int .i64 t] h (IK (nothing t)):=by
 refine gF ax func260 Rr U rfl ?_;conv=>whnf
 exact⟨rfl,rfl⟩
theorem Ah {h0 h:Heap} {a:Nat} {I:List Value} {u:aI} {x:Sx} {B:List Nat} (e:XS h0 h a I u x B) (m:iQ u x) (o:Ob) {v:Value} {f:List Nat} (s:dx h v o.bp f) (Q:∀ b∈f,b ∉ a::B/\h0 b=none) :
  bq prog 261 [.pointer (some ⟨a,0,none⟩),.agg #[.int .i64 o.cls,v]] h λ_ p=>∃ B',XS h0 p a I u (gH x o) B'/\Ev h p ((a::B)++f) (a::B')/\rd p a 3=rd h a 3:=by
 obtain⟨w,t,⟨p2,c2,r2⟩,_,_,aa,K,ab,M,rfl,r0,r1,UJ,hcs,lR⟩:=e.iP;have hl:=m.len.2;have D:Ev h h ((a::B)++f) (a::B):=⟨λ_ _ _=>rfl,λb c=>.inl (u_.2 (.inl c))⟩
 have V:=s.form;obtain⟨pv,cv,rfl,_⟩:=V;by_cases g:x.bad
 ·have X:gH x o=x:=if_pos g;rw[X];refine bE ax func261 JP Iy rfl ?_;conv=>whnf
  refine ld w ?_;conv=>whnf
  apply fh<;>intro E;all_goals conv=>whnf
  ·exact⟨B,e,D,rfl⟩
  have j:0 < x.ft:=by
   rcases g with c|c
   ·rw[E]at c;cases c
   exact c
  refine ld t ?_;conv=>whnf
  refine fD j ?_;conv=>whnf
  exact⟨B,e,D,rfl⟩
 have G:x.st=false:=by
  cases d:x.st with
  | false=>rfl
  | true=>exact absurd (.inl d) g
 have j:x.ft=0:=by
  have:=m.ft;have:¬0 < x.ft:=λY=>g (.inr Y);omega
 have W:gH x o=cT {x with objs:=x.objs++[o]} ⟨true,x.objs.length+1⟩:=if_neg g;rw[W];have hX0:=e;have Ai:=G;have Xt:=j;rw[G]at w;rw[j]at t;obtain⟨ad,po,L,y,vs,c,P⟩:=e.ma.Ms (show x.wO.objs.length<=1000 by show x.objs.length<=1000;omega);have Xu:rd h a 2=some (.slice po x.objs.length L):=cX c (i:=0) rfl rfl;have MC:rd h a 3=some y:=cX c (i:=1) rfl rfl;refine bE ax func261 JP Iy rfl ?_;conv=>whnf
 repeat' ((first|refine ld w ?_|refine ld t ?_|refine ay ?_|refine av ?_|refine ptr ?_)<;>conv=>whnf)
 repeat' ((first|exact trivial|refine ld Xu ?_|apply T_)<;>conv=>whnf)
 all_goals
  refine P o f _ _ ⟨_,rfl,s⟩ s.nd Q rfl rfl rfl rfl Z ?_;rintro H z h2 N e2 e3 ⟨B',R,C⟩;have T:=N.trans c;conv=>whnf
  refine qU T (i:=0) (aR (.slice H (x.wO.objs.length+1) z) y vs x.wO) rfl (by simp[aR]) (by rfl) (λq A F=>?_);have S:XS h0 q a [.slice aa u.ak.length K,.slice ab u.methods.length M] u {x with objs:=x.objs++[o]} B':=⟨by rw[A];exact R,e.un⟩
  have q2:rd q a 2=some (.slice H (x.objs.length+1) z):=cX F (i:=0) rfl rfl;have q3:rd q a 3=some y:=cX F (i:=1) rfl rfl;rw[<-A]at C;conv=>whnf
  refine ld q2 ?_;conv=>whnf
  refine au (jD _ _) ?_;conv=>whnf
  refine aB (jC S (by have:=m.nf;show x.fs.length<=1000;omega) (by have:=m.jX.2.2.2.1;show x.f.stack.length<=1000;omega) ⟨true,((x.objs.length+1:Nat):Int)⟩) (λv h4 d=>?_);conv=>whnf
  refine d.elim λJ d=>?_;exact⟨J,d.1,C.trans d.2.1,by rw[d.2.2,q3,MC]⟩
theorem GZ {h0 h:Heap} {c:Nat} {Q:List Value} {u:aI} {x:Sx} {B:List Nat} (g:XS h0 h c Q u x B) (hs:iQ u x) (ok:bX u.ak) (k:Int) (v:0<=k/\k < u.ak.length) :
  bq prog 228 [.pointer (some ⟨c,0,none⟩),.int .i64 k] h λ_ h'=>XR h0 h c Q u B (Ag u x k) h':=by
 have oh:=g.ma.in;have hle:=g.ma.le;obtain⟨r9,MD,_,_,_,ab,W,ag,af,rfl,r0,r1,UJ,hcs,lR⟩:=g.iP;have ME:=eL ok v.2;refine bE ax func228 Rg U rfl ?_;conv=>whnf
 refine ld r0 ?_;conv=>whnf
 refine aB (jt (k.toNat+1) ab u.ak.length W u.ak k h hcs ok v.1 v.2 O) (λad d a=>?_);refine a.2.elim λT K=>?_;have A:=K.1;have nt:=K.2;have z:=a.1;have e:=A.form;refine e.elim λP e=>e.elim λE e=>?_;have hv:=e.1;subst hv;have I:Ag u x k=gH x ⟨k,(bV u.ak k).map nothing⟩:=rfl;rw[I];generalize bV u.ak k=types at A ME I ⊢;have hlt:=fj bD types;conv=>whnf
 refine eF [0,4,5,6] [5] (λs:Nat × Heap × Option Addr × Nat × List Nat=>s.1<=types.length/\d.le s.2.1/\dx s.2.1 (.slice s.2.2.1 s.1 s.2.2.2.1) ((types.take s.1).map nothing) s.2.2.2.2/\∀ b∈s.2.2.2.2,d b=none) (λs=>types.length-s.1)
  (λs=>([.v (.pointer (some ⟨c,0,none⟩)),.v (.slice P (types.map bD).length E),.l 5 0,.v (.int .i64 s.1)],[some [.int .i64 k,.slice s.2.2.1 s.1 s.2.2.2.1]],s.2.1))
  (0,d,none,0,[]) ⟨O,z_ d,⟨Z,.inl ⟨rfl,Z,rfl⟩⟩,Z⟩ rfl ?_
 rintro⟨i,G,pp,ae,D⟩ ⟨hi,f,m,j⟩;simp only at hi f m j ⊢;conv=>whnf
 apply aC<;>intro aa;all_goals conv=>whnf
 ·have L:i < types.length:=by omega
  have X:=(show dM G (.slice P (types.map bD).length E) types T from A.aK (cS.of_le f _)).nth (i:=i) (by simpa using L);obtain⟨b,hq,F,_⟩:=X;rw[List.getElem_map]at F;have Y:rd G b (0+i*1)=some (.int .i64 types[i]):=by simpa using aJ F (i:=0) rfl
  refine ay ?_;conv=>whnf
  refine aL hq ?_;conv=>whnf
  refine ld Y ?_;conv=>whnf
  repeat' ((first|exact trivial|refine aP (wP _ _) ?_|apply T_)<;>conv=>whnf)
  all_goals
   have Ce:((types.take i).map nothing).length=i:=by simp;omega
   refine dh (h0:=d) (ys:=[dO (nothing types[i])]) m j f rfl rfl (by simp[dO]) rfl rfl (by simp;omega) (by simp;omega) ?_;intro v' q C g1 g2 g3 g4 g5;have p:dx q v' ((types.take (i+1)).map nothing) C:=by
    unfold dx;rw[<-List.take_append_getElem L,List.map_append,List.map_append];exact g2
   obtain⟨p',V,rfl,_⟩:=p.form;have Aj:(((types.take (i+1)).map nothing).map dO).length=i+1:=by simp;omega
   rw[Aj]at p ⊢;conv=>whnf
   refine av ?_;conv=>whnf
   exact cL (i+1,q,p',V,C) ⟨O,g1,p,g3⟩ (by simp only;omega) rfl
 have yH:i=types.length:=by omega
 subst yH;rw[List.take_length]at m;have M:=g.mono (y_ z f);have J:∀ b,d b=none->h b=none:=λb H=>by
  cases a:h b with
  | none=>rfl
  | some o=>rw[z b o a]at H;cases H
 have tQ:∀ b∈D,b ∉ c::B/\h0 b=none:=by
  intro b t;have w:=J b (j b t);refine⟨λy=>?_,?_⟩
  ·obtain⟨o,N⟩:=oh b y;rw[w]at N;cases N
  cases a:h0 b with
  | none=>rfl
  | some o=>rw[hle b o a]at w;cases w
 refine aB (Ah M.1 hs ⟨k,types.map nothing⟩ m tQ) (λad q a=>?_);conv=>whnf
 refine a.elim λR a=>?_;refine⟨R,a.1,?_,a.2.2.trans M.2.2⟩;have:=(Ev.of_le (y_ z f) ((c::B)++D) (S:=c::B) (λb t=>(u_.1 t).imp id (λy=>J b (j b y)))).trans a.2.1;exact this
end Go.Proofs
