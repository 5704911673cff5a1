/- Part 8 of the lemmas on which the law rests: what functions of the program and of the reference do; no conditions but those that each lemma states. -/
import Derived.Test.YthkgbjpkklkppaaGreatMa7
set_option linter.unusedSimpArgs false
set_option linter.unusedVariables false
namespace Go.Proofs
open Go.Vc Go.Proofs.Tryz
set_option maxRecDepth 100000
set_option maxHeartbeats 4000000
structure Vn (Gb:Heap) (rec:List Value) (m:cu) (a:Value):Prop where
 form:∃ bc cc bs cs kv,rec=[.int .i64 m.cls,.int .i64 m.er,a,.int .i64 m.out,.int .i64 m.locals,.slice (some ⟨bc,0,none⟩) m.code.length cc,.slice (some ⟨bs,0,none⟩) m.aT.length cs,kv]/\(Gb bc=none/\Gb bs=none) /\
  ((kv=.slice none 0 0/\m.catches=[])\/∃ bk,kv=.slice (some ⟨bk,0,none⟩) 1 1/\m.catches.length=1)
def vp (m a:cu):Prop:=a.cls=m.cls/\a.er=m.er/\a.args=m.args/\a.out=m.out/\a.locals=m.locals
theorem vp.KT {n:Nat} {m b:cu} (h:vp m b) (a:eW n m):eW n b:=by
 obtain⟨c,d,e,f,g⟩:=h;unfold eW cj at a ⊢;rw[c,d,e,f,g];exact a
def Kd (l:List dc):Prop:=∃ a y,l=a++[y]/\(∀ x∈a,x.kind≠22)/\(y.kind=22\/y.kind=23)/\y.a=0/\y.b=0
structure Ai (Gb G:Heap) (u:aS) (m:cu) (a:Value) (rec:List Value) (m':cu):Prop where
 same:vp m m'
 read:dO G rec m'
 ms:QX u m'
 form:Vn Gb rec m' a
 kd:Kd m'.code
theorem vq {n:Nat} {m:cu} (a:eW n m) (f:n<=5):cH m.cls/\cH m.er/\cH m.out/\cH m.locals:=by
 unfold eW cL at a;have e:0<=m.locals:=by have:=a.2.2.2.2.2;omega
 obtain⟨b,_,c,_,d,_⟩:=a;unfold cH;omega
theorem gD {a:Type} {sz:Nat} {R:Heap->List Value->a->Prop} (h:Heap):Row sz R h (.slice none 0 0) ([]:List a):=⟨Z,none,0,rfl,Z,.inl rfl⟩
theorem wX {g:Heap} {n:Nat} {m:cu} {a:Value} (e:eW n m) (h:n<=5) (f:cR g a m.args) (b:m.code=[]) (c:m.aT=[]) (d:m.catches=[]):dO g (dS m.cls m.er a m.out m.locals) m:=by
 obtain⟨i1,i2,i3,i⟩:=vq e h;exact⟨a,_,_,_,rfl,i1,i2,i3,i,f,by rw[b];exact gD g,by rw[c];exact gD g,by rw[d];exact gD g⟩
theorem Dg {h:Heap} {b n sz:Nat} {vs:List Value} {K:List Value->Prop} (c:dQ h b 0 (n*sz)=some vs) (a:K vs):No h (some ⟨b,0,none⟩) (n*sz) K:=by
 rw[p0];unfold AN;exact .inr ⟨b,0,vs,rfl,c,a⟩
theorem Dh {a:Int} {n:Nat} (b:0<=a) (c:0 < n):0<=a.tmod n/\a.tmod n < n:=by
 rw[Int.tmod_eq_emod_of_nonneg b];exact⟨Int.emod_nonneg _ O,Int.emod_lt_of_pos _ O⟩
theorem tc {h:Heap} {p:Option Addr} {n c:Nat} {l:List Int} {B:List Nat} (g:dI h (.slice p n c) l B) {i:Nat} (d:i < l.length):∃ b,p=some ⟨b,0,none⟩/\rd h b (0+i*1)=some (.int .i64 l[i]):=by
 obtain⟨_,⟨a,f,_⟩|⟨b,j,rest,t,a,m,e,_,_⟩⟩:=g
 ·have:l=[]:=by simpa using f
  subst this;simp at d
 simp only[Value.slice.injEq]at a;obtain⟨rfl,_,_⟩:=a;refine⟨b,rfl,?_⟩;rw[dy]at e;simp only[rd,e,List.getElem?_toArray,Nat.zero_add,Nat.mul_one];rw[List.getElem?_append_left (by simpa using d)];simp[d]
theorem Aj {c g g0:Heap} {a:List dc} {pc:Option Addr} {b:Nat} {d:List Nat} {m:List Int} {v:Option Addr} {j:Nat} {e:List Nat} {t:List kg} {u:Value} {f:List Nat} (h:ji c g a pc b d m v j e t u f) (q:g0.le c) (w:a.length<=100)
  (p:∀ x∈a,(1<=x.kind/\x.kind<=24)/\(-1000<=x.a/\x.a<=1000)/\-1000<=x.b/\x.b<=1000):Row 3 xJ (since g0 g) (.slice pc a.length b) a :=
 (h.oc.aJ (iD λi o=>bq q (h.fr i (by simp[o])))).yu O λx s=>⟨rfl,by
  have:=p x s;unfold cH;omega⟩
theorem wY {c o:Heap} {a:List dc} {pc:Option Addr} {i:Nat} {d:List Nat} {m:List Int} {v:Option Addr} {j:Nat} {f:List Nat} {t:List kg} {u:Value} {g:List Nat} (h:ji c o a pc i d m v j f t u g) (q:1<=a.length):∃ b,pc=some ⟨b,0,none⟩/\c b=none:=by
 have s:=h.oc;obtain⟨_,⟨_,e,_⟩|⟨b,w,rest,x,e,_,_,_,p⟩⟩:=s
 ·have:a=[]:=by simpa using e
  subst this;simp at q
 simp only[Value.slice.injEq]at e;exact⟨b,e.1,h.fr b (by rw[p];simp)⟩
theorem mN {b g g0:Heap} {code:List dc} {pc:Option Addr} {s:Nat} {j:List Nat} {u:List Int} {F:Option Addr} {t:Nat} {o:List Nat} {c:List kg} {i:Value} {p:List Nat} {m:cu} {n:Nat} {a e:Value} {d:List dc}
  (h:ji b g code pc s j u F t o c i p) (B:g0.le b) (v:eW n m) (C:n<=5) (w:cR (since g0 b) a m.args) (z:Row 3 xJ (since g0 g) e d) (A:∀ x∈c,(0<=x.lo/\x.lo < x.hi/\x.hi<=100/\0<=x.to/\x.to < 100)/\x.cls=1) :
  dO (since g0 g) [.int .i64 m.cls,.int .i64 m.er,a,.int .i64 m.out,.int .i64 m.locals,e,.slice none 0 0,i] {m with code:=d,aT:=[],catches:=c}:=by
 obtain⟨i1,i2,i3,E⟩:=vq v C;refine⟨a,_,_,_,rfl,i1,i2,i3,E,w.le (bE g0 h.le),z,gD _,(h.ok.aJ (iD λq y=>bq B (h.fr q (by simp[y])))).yu ?_ λx D=>⟨rfl,?_⟩⟩
 ·rcases h.kf with ⟨_,f⟩|⟨_,_,f⟩
  ·simp[f]
  omega
 have:=A x D;unfold cH;omega
theorem Eh {g0 E:Heap} {t:Nat} {vb:Value} {p:Int} (us:List Value) (u:aS) (m:cu) (a:Value) (r:bz E t vb p) (hp:p<=40000000) (h0:g0.le E) (hu:cZ (since g0 E) us u) (ha:cR (since g0 E) a m.args) (hV:D8 u) (hn:u.methods.length<=100) (S:eW u.aq.length m) (e1:m.code=[]) (e2:m.aT=[]) (e3:m.catches=[]) :
  Dr prog 83 [.pointer (some ⟨t,0,none⟩),.agg ⟨us⟩,.agg ⟨dS m.cls m.er a m.out m.locals⟩] E t vb p 2100 λg' v=>∃ rec m',v=.agg ⟨rec⟩/\Ai (since g0 E) (since g0 g') u m a rec m':=by
 have ok:=hV.1;have Ak:=ok.2.1;have we:=S.2.2.2.2.1;have Gk:0<=m.locals:=by have:=S.2.2.2.2.2;omega
 have hm:=wX S Ak (ha.le (aQ g0 E)) e1 e2 e3;have KU:=λp1 (r1:bz E t vb p1) yc Vo De=>Ee us (dS m.cls m.er a m.out m.locals) u m Vo r1 yc (hu.le (aQ g0 E)) hm hV hn S De;have oT:=hu;obtain⟨cp,cc,q,ae,rfl,hcs,kS,ko,hl2⟩:=hu.form;obtain⟨ap,ac,rfl,QU,OO⟩:=ha.len;refine bT aB func83 Zu U rfl ?_;unfold dS;conv=>whnf
 refine bB r O (λx x0 x1 x2 r1=>?_);conv=>whnf
 apply aD<;>intro gc;all_goals conv=>whnf
 rotate_left
 refine fq r1 (KU _ r1 O _ O) (λv g2 M l2 r2 Q3 Q4 hA=>?_);obtain⟨code,pc,kc,Bc,w,pe,ke,Be,rfl,Y,De⟩:=hA;have Vp:=ji.of Y;conv=>whnf
 refine cx gc ?_;conv=>whnf
 have hX:∀ j (h:j < code.length),(j < 0\/code.length<=j->Good u m ((code.length:Int)+2) code[j])/\(0<=j->j < code.length->rA u m code[j]):=λj c=>⟨λh=>O,λ_ h=>Y.ins _ (List.getElem_mem h)⟩
 rotate_left
 refine av ?_;conv=>whnf
 refine fq r1 (KU _ r1 O _ O) (λv g2 M l2 r2 Q3 Q4 hA=>?_);obtain⟨code,pc,kc,Bc,w,pe,ke,Be,rfl,Y,De⟩:=hA;have Vp:=ji.of Y;conv=>whnf
 refine eR gc ?_;conv=>whnf
 apply aD<;>intro gn;all_goals conv=>whnf
 ·refine av ?_;conv=>whnf
  refine Vp.app r r2 [⟨11,(code.length:Int)+2,0⟩,⟨5,0,0⟩] rfl rfl rfl rfl O Z rfl (Nat.le_of_ble_eq_true rfl) (λpX kX gX BX QK rX=>?_);conv=>whnf
  refine av ?_;conv=>whnf
  refine bB rX O (λR kf0 kf1 kf2 rY=>?_);conv=>whnf
  refine av ?_;conv=>whnf
  refine QK.cat rY ⟨R,code.length,(code.length:Int)+1,1⟩ rfl (λbk g3 I r3=>?_);conv=>whnf
  have hX:∀ j (h:j < (code++[(⟨11,(code.length:Int)+2,0⟩:dc),⟨5,0,0⟩]).length),(j < 0\/code.length<=j->Good u m (((code++[(⟨11,(code.length:Int)+2,0⟩:dc),⟨5,0,0⟩]).length:Int)+2) (code++[(⟨11,(code.length:Int)+2,0⟩:dc),⟨5,0,0⟩])[j])/\(0<=j->j < code.length->rA u m (code++[(⟨11,(code.length:Int)+2,0⟩:dc),⟨5,0,0⟩])[j]):=λj c=>by
   simp only[List.length_append,List.length_cons,List.length_nil]at c;refine⟨λh=>?_,λ_ h=>?_⟩
   ·have G:j=code.length\/j=code.length+1:=by omega
    rcases G with rfl|rfl
    ·rw[List.getElem_append_right O];simp only[Nat.sub_self,List.getElem_cons_zero];exact .inr ⟨Z,by simp;omega,rfl⟩
    rw[List.getElem_append_right O];simp only[Nat.add_sub_cancel_left,List.getElem_cons_succ,List.getElem_cons_zero];exact .inl ⟨(aL (p:=0) (q:=0) rfl).2 ⟨rfl,rfl⟩,Z,Z⟩
   rw[List.getElem_append_left h];exact Y.ins _ (List.getElem_mem h)
  have Vq:(code++[(⟨11,(code.length:Int)+2,0⟩:dc),⟨5,0,0⟩]).length<=10:=(by first|omega|(simp only[List.length_append,List.length_cons,List.length_nil];omega))
  have Vr:code.length<=(code++[(⟨11,(code.length:Int)+2,0⟩:dc),⟨5,0,0⟩]).length:=(by first|omega|(simp only[List.length_append,List.length_cons,List.length_nil];omega))
  have Hj:0<=((code.length:Int)+2:Int)/\((code.length:Int)+2:Int) < ((code++[(⟨11,(code.length:Int)+2,0⟩:dc),⟨5,0,0⟩]).length:Int)+2:=(by first|omega|(simp only[List.length_append,List.length_cons,List.length_nil];omega))
  have Vs:=Y.emp;have NN:∀ x∈(([⟨R,code.length,(code.length:Int)+1,1⟩]:List kg):List kg),(0<=x.lo/\x.lo < x.hi/\x.hi<=((code++[(⟨11,(code.length:Int)+2,0⟩:dc),⟨5,0,0⟩]).length:Int)/\0<=x.to/\x.to < ((code++[(⟨11,(code.length:Int)+2,0⟩:dc),⟨5,0,0⟩]).length:Int))/\x.cls=1:=λx A=>by
   rw[List.mem_singleton.1 A];refine⟨⟨?_,?_,?_,?_,?_⟩,rfl⟩<;>(try simp only[List.length_append,List.length_cons,List.length_nil])<;>(try dsimp only)<;>omega
  refine eu [0,4,5,6,9,10,11,12,13] [4,5,6] (λe:Nat × Heap × List dc=>e.1<=code.length/\ji E e.2.1 e.2.2 pX kX BX w pe ke Be ([⟨R,code.length,(code.length:Int)+1,1⟩]:List kg) (.slice (some ⟨bk,0,none⟩) 1 1) [bk]/\bz e.2.1 t vb (M+1)/\e.2.2.length=(code++[(⟨11,(code.length:Int)+2,0⟩:dc),⟨5,0,0⟩]).length/\(∀ j (h:j < e.2.2.length),(j < e.1\/code.length<=j->Good u m (((code++[(⟨11,(code.length:Int)+2,0⟩:dc),⟨5,0,0⟩]).length:Int)+2) e.2.2[j])/\(e.1<=j->j < code.length->rA u m e.2.2[j]))) (λe=>code.length-e.1)
   (λe=>([.v (.pointer (some ⟨t,0,none⟩)),.l 4 0,.l 5 0,.l 6 0,.v (.slice pX (code++[(⟨11,(code.length:Int)+2,0⟩:dc),⟨5,0,0⟩]).length kX),.v (.slice pe w.length ke),.v (.int .i64 code.length),.v (.int .i64 ((code.length:Int)+2)),.v (.int .i64 e.1)],
    [some [.slice cp u.aq.length cc,.slice q u.methods.length ae],some [.int .i64 m.cls,.int .i64 m.er,.slice ap m.args.length ac,.int .i64 m.out,.int .i64 m.locals,.slice none 0 0,.slice none 0 0,(.slice (some ⟨bk,0,none⟩) 1 1)],some [.int .i64 0,.int .i64 0,.slice none 0 0,.int .i64 0,.int .i64 0,.slice none 0 0,.slice none 0 0,.slice none 0 0]],cN e.2.1 t vb (M+1)))
   (0,g3,code++[(⟨11,(code.length:Int)+2,0⟩:dc),⟨5,0,0⟩]) ⟨Nat.zero_le _,I,r3,rfl,hX⟩ rfl ?_
  rintro⟨i,F,b⟩ ⟨hi,I,o,L,H⟩;simp only at hi I o L H ⊢;conv=>whnf
  apply aD<;>intro gi;all_goals conv=>whnf
  ·have lu:i < b.length:=by omega
   have W:=(H i lu).2 (Nat.le_refl _) O;have Vt:=Df W ok hn O;have aa:=I.at lu;obtain⟨N,J,e4,pre,post,t4,Q,zX,put⟩:=aa;have Qv:N≠t:=λD=>by have:=o.free;rw[<-D,Q]at this;cases this
   have T:dQ (cN F t vb (M+1)) N (0+i*3) 3=some (cJ b[i]):=bG (aX o.free) e4;have X:rd (cN F t vb (M+1)) N (0+i*3+1)=some (.int .i64 b[i].a):=aM T (i:=1) rfl;have Vu:∀ y,Good u m (((code++[(⟨11,(code.length:Int)+2,0⟩:dc),⟨5,0,0⟩]).length:Int)+2) y->∀ j (h:j < (b.set i y).length),(j < i+1\/code.length<=j->Good u m (((code++[(⟨11,(code.length:Int)+2,0⟩:dc),⟨5,0,0⟩]).length:Int)+2) (b.set i y)[j])/\(i+1<=j->j < code.length->rA u m (b.set i y)[j]):=λy hy j c=>by
    rw[List.length_set]at c;by_cases D:i=j
    ·subst D;refine⟨λ_=>by simpa using hy,λh=>O⟩
    rw[List.getElem_set_ne D];exact⟨λh=>(H j c).1 O,λz G=>(H j c).2 O G⟩
   have nu:Good u m (((code++[(⟨11,(code.length:Int)+2,0⟩:dc),⟨5,0,0⟩]).length:Int)+2) b[i]->∀ j (h:j < b.length),(j < i+1\/code.length<=j->Good u m (((code++[(⟨11,(code.length:Int)+2,0⟩:dc),⟨5,0,0⟩]).length:Int)+2) b[j])/\(i+1<=j->j < code.length->rA u m b[j]):=λhy j c=>by
    by_cases D:i=j
    ·subst D;exact⟨λ_=>hy,λh=>O⟩
    exact⟨λh=>(H j c).1 O,λz G=>(H j c).2 O G⟩
   generalize HX:b[i]=xi at W Vt e4 T X nu Q;obtain⟨g,B,d⟩:=xi;unfold cJ at e4 T;refine ay ?_;conv=>whnf
   refine aP J ?_;conv=>whnf
   refine dh T ?_;conv=>whnf
   refine MO o (iC g B d F) ?_;conv=>whnf
   cases c:dG ⟨g,B,d⟩
   ·conv=>whnf
    refine av ?_;conv=>whnf
    unfold dG at c;have c:=of_decide_eq_false c;refine cT (i+1,F,b) ⟨by simp only;omega,I,o,L,nu ?_⟩ (by simp only;omega) rfl;rcases W with ⟨z,_,NA,_⟩|⟨z,_⟩
    ·exact .inl ⟨z,c,NA⟩
    exact absurd z (by simp only at c ⊢;omega)
   unfold dG at c;have c:=of_decide_eq_true c;have Vv : -3<=B/\B<=-1/\d=0:=by
    rcases W with ⟨_,z,_⟩|⟨_,z,G⟩
    ·exact absurd c z
    simp only at z G;omega
   conv=>whnf
   refine ay ?_;conv=>whnf
   refine aP J ?_;conv=>whnf
   refine ld X ?_;conv=>whnf
   refine eR (by simp only;omega) ?_;conv=>whnf
   refine ay ?_;conv=>whnf
   refine aP J ?_;conv=>whnf
   refine ld X ?_;conv=>whnf
   have fin:∀(to:Int),0<=to/\to < ((code++[(⟨11,(code.length:Int)+2,0⟩:dc),⟨5,0,0⟩]).length:Int)+2->ji E (F.set N (.cells (pre++cJ ⟨g,to,d⟩++post).toArray t4 (0,0))) (b.set i ⟨g,to,d⟩) pX kX BX w pe ke Be ([⟨R,code.length,(code.length:Int)+1,1⟩]:List kg) (.slice (some ⟨bk,0,none⟩) 1 1) [bk]/\bz (F.set N (.cells (pre++cJ ⟨g,to,d⟩++post).toArray t4 (0,0))) t vb (M+1)/\(∀ j (h:j < (b.set i ⟨g,to,d⟩).length),(j < i+1\/code.length<=j->Good u m (((code++[(⟨11,(code.length:Int)+2,0⟩:dc),⟨5,0,0⟩]).length:Int)+2) (b.set i ⟨g,to,d⟩)[j])/\(i+1<=j->j < code.length->rA u m (b.set i ⟨g,to,d⟩)[j])):=λto ht=>by
    have P5:=put ⟨g,to,d⟩ _ rfl;exact⟨P5,r.to P5.le (by simp[Heap.set,o.free];intro D;exact absurd D.symm Qv) O,Vu _ (.inr ⟨c,ht,Vv.2.2⟩)⟩
   have wr:∀ to:Int,dU (pre++cJ ⟨g,B,d⟩++post) (0+i*3+1) [.int .i64 to]=pre++cJ ⟨g,to,d⟩++post:=λto=>by
    rw[gW (i:=1) O (by simp[cJ])];rfl
   apply aD<;>intro g5;all_goals conv=>whnf
   ·apply aD<;>intro V;all_goals conv=>whnf
    ·have he:=Dh (a:=(0-B)*5+i) (n:=w.length) O O;have vU:(((0-B)*5+(i:Int)).tmod w.length).toNat < w.length:=by omega
     have aa:=tc I.oe vU;obtain⟨be,Vw,hle⟩:=aa;have CJ:=Vs _ (List.getElem_mem vU);have Kv:∃ to,w[(((0-B)*5+(i:Int)).tmod w.length).toNat]=to:=⟨_,rfl⟩
     obtain⟨to,Kv⟩:=Kv;rw[Kv]at CJ hle;have AV:rd (cN F t vb (M+1)) be (0+(((0-B)*5+(i:Int)).tmod w.length).toNat*1)=some (.int .i64 to):=aW (aX o.free) hle;refine ay ?_;conv=>whnf
     refine aP J ?_;conv=>whnf
     refine ld X ?_;conv=>whnf
     refine av ?_;conv=>whnf
     refine av ?_;conv=>whnf
     refine av ?_;conv=>whnf
     refine ay ?_;conv=>whnf
     refine ob he ?_;conv=>whnf
     refine aP Vw ?_;conv=>whnf
     refine ld AV ?_;conv=>whnf
     refine ay ?_;conv=>whnf
     refine aP J ?_;conv=>whnf
     refine gS o.free Q (by simp[cJ];omega) (wr (to)) ?_;conv=>whnf
     refine av ?_;conv=>whnf
     have s:=fin (to) ⟨O,O⟩;exact cT (i+1,_,b.set i ⟨g,to,d⟩) ⟨by simp only;omega,s.1,s.2.1,by simp only[List.length_set];exact L,s.2.2⟩ (by simp only;omega) rfl
    have vr:=Hj;refine ay ?_;conv=>whnf
    refine aP J ?_;conv=>whnf
    refine gS o.free Q (by simp[cJ];omega) (wr ((code.length:Int)+2)) ?_;conv=>whnf
    refine av ?_;conv=>whnf
    have s:=fin ((code.length:Int)+2) vr;exact cT (i+1,_,b.set i ⟨g,(code.length:Int)+2,d⟩) ⟨by simp only;omega,s.1,s.2.1,by simp only[List.length_set];exact L,s.2.2⟩ (by simp only;omega) rfl
   have vr:=Hj;refine ay ?_;conv=>whnf
   refine aP J ?_;conv=>whnf
   refine gS o.free Q (by simp[cJ];omega) (wr ((code.length:Int)+2)) ?_;conv=>whnf
   refine av ?_;conv=>whnf
   have s:=fin ((code.length:Int)+2) vr;exact cT (i+1,_,b.set i ⟨g,(code.length:Int)+2,d⟩) ⟨by simp only;omega,s.1,s.2.1,by simp only[List.length_set];exact L,s.2.2⟩ (by simp only;omega) rfl
  have jV:∀ x∈b,Good u m (((code++[(⟨11,(code.length:Int)+2,0⟩:dc),⟨5,0,0⟩]).length:Int)+2) x:=λx A=>by
   obtain⟨j,c,rfl⟩:=List.mem_iff_getElem.1 A;exact(H j c).1 O
  have Hl:∀ x∈(([⟨R,code.length,(code.length:Int)+1,1⟩]:List kg):List kg),(0<=x.lo/\x.lo < x.hi/\x.hi<=100/\0<=x.to/\x.to < 100)/\x.cls=1:=λx A=>by
   have:=NN x A;omega
  have Vx:=mN I h0 S Ak ha (gD _) Hl;refine fq o (vh _ _ o O (Vx.le (aQ _ _))) (λv g5 q5 l5 r5 q50 q51 hA=>?_);obtain⟨b5,x,y,rfl,vG,e5,Ho⟩:=hA;have Vy:=I.aJ l5;have Ia:ej u {m with code:=b++[x,y],aT:=[],catches:=([⟨R,code.length,(code.length:Int)+1,1⟩]:List kg)} x/\ej u {m with code:=b++[x,y],aT:=[],catches:=([⟨R,code.length,(code.length:Int)+1,1⟩]:List kg)} y:=by
   have G:=ok.1;rcases Ho with ⟨rfl,rfl⟩|⟨rfl,rfl|⟨ad,rfl,w0,w1⟩⟩
   ·exact⟨(aL (p:=5) (q:=0) rfl).2 ⟨by unfold br;simp;omega,rfl⟩,(aL (p:=0) (q:=0) rfl).2 ⟨rfl,rfl⟩⟩
   ·exact⟨(aL (p:=0) (q:=0) rfl).2 ⟨rfl,rfl⟩,(aL (p:=0) (q:=0) rfl).2 ⟨rfl,rfl⟩⟩
   exact⟨(aL (p:=1) (q:=0) rfl).2 ⟨by unfold br;simp[eA];omega,rfl⟩,(aL (p:=0) (q:=0) rfl).2 ⟨rfl,rfl⟩⟩
  have Vz:Kd (b++[x,y]):=by
   refine⟨b++[x],y,Z,λC f=>?_,?_⟩
   ·rcases List.mem_append.1 f with f|f
    ·exact(jV C f).k
    rw[List.mem_singleton.1 f];rcases Ho with ⟨_,rfl⟩|⟨_,rfl|⟨ad,rfl,_⟩⟩<;>simp
   rcases Ho with ⟨rfl,_⟩|⟨rfl,_⟩<;>simp
  have VA:dQ (cN g5 t vb q5) b5 0 (2*3)=some (cJ x++cJ y):=by
   refine bG (aX r5.free) ?_;rw[bK e5 _ _ (by simp[cJ])];rfl
  conv=>whnf
  refine Dg VA ?_;conv=>whnf
  refine Vy.app r r5 [x,y] O rfl rfl rfl O Z rfl (Nat.le_of_ble_eq_true rfl) (λp6 k6 V B6 K r6=>?_);have f6:=wY K Z;obtain⟨VC,rfl,MY⟩:=f6;conv=>whnf
  have Bz:∀ C∈b++[x,y],ej u {m with code:=b++[x,y],aT:=[],catches:=([⟨R,code.length,(code.length:Int)+1,1⟩]:List kg)} C:=λC f=>by
   simp only[List.mem_append,List.mem_cons,List.not_mem_nil,or_false]at f;rcases f with f|rfl|rfl
   ·exact(jV C f).ins rfl (by simp[L])
   ·exact Ia.1
   exact Ia.2
  have KO:=Heap.le_trans h0 K.le;have l6:(since g0 E).le (since g0 V):=bE g0 K.le;have mR:=Aj K h0 (by simp;omega) (λC f=>rC (Bz C f) ok hn (by simp only;omega) (by simp;omega));have MZ:=mN K h0 S Ak ha mR Hl;have P:MJ u {m with code:=b++[x,y],aT:=[],catches:=([⟨R,code.length,(code.length:Int)+1,1⟩]:List kg)}:=⟨S,by simp;omega,Bz,by
   refine⟨Z,λC f=>?_⟩;have Ls:=NN C f;have hc:=ok.1;have P6:(b++[x,y]).length=b.length+2:=by simp
   exact⟨by simp only[P6];omega,by simp only[P6];omega,O,by rw[Ls.2];exact qm ok O O⟩⟩
  refine Jw r6 KO (nS _ u {m with code:=b++[x,y],aT:=[],catches:=([⟨R,code.length,(code.length:Int)+1,1⟩]:List kg)} (since g0 V) ap (some ⟨VC,0,none⟩) none (some ⟨bk,0,none⟩) m.args.length _ 0 1 ac k6 0 1 (oT.le l6) MZ hV P) (λv g7 l7 r7 hr=>?_);obtain⟨b7,c7,ab,rfl,aA,nA,vA⟩:=hr;conv=>whnf
  obtain⟨a8,c8,s8,k8,GU,w1,w2,w3,w4,w5,w6,_,w8⟩:=MZ;simp only[List.cons.injEq,and_true,true_and]at GU;obtain⟨rfl,rfl,rfl,rfl⟩:=GU;have ls:=bE g0 l7;have nA':ab.length=b.length+2:=by rw[nA];simp
  refine⟨_,_,rfl,Heap.le_trans K.le l7,r7.free,O,O,_,{m with code:=b++[x,y],aT:=ab,catches:=([⟨R,code.length,(code.length:Int)+1,1⟩]:List kg)},rfl,⟨rfl,rfl,rfl,rfl,rfl⟩,⟨_,_,_,_,rfl,w1,w2,w3,w4,w5.le ls,w6.le ls (λ_ _ A=>A),aA.uZ O,w8.le ls (λ_ _ A=>A)⟩,⟨⟨P.head,P.len,P.code,P.cat⟩,nA,vA⟩,⟨_,_,_,_,_,rfl,⟨mM MY,bq l6 aA.fr⟩,.inr ⟨_,rfl,rfl⟩⟩,Vz⟩
 have hX:∀ j (h:j < code.length),(j < 0\/code.length<=j->Good u m ((code.length:Int)+2) code[j])/\(0<=j->j < code.length->rA u m code[j]):=λj c=>⟨λh=>O,λ_ h=>Y.ins _ (List.getElem_mem h)⟩
 all_goals
  have Vq:(code).length<=10:=(by first|omega|(simp only[List.length_append,List.length_cons,List.length_nil];omega))
  have Vr:code.length<=(code).length:=(by first|omega|(simp only[List.length_append,List.length_cons,List.length_nil];omega))
  have Hj:0<=((code.length:Int):Int)/\((code.length:Int):Int) < ((code).length:Int)+2:=(by first|omega|(simp only[List.length_append,List.length_cons,List.length_nil];omega))
  have Vs:=Y.emp;have NN:∀ x∈(([]:List kg):List kg),(0<=x.lo/\x.lo < x.hi/\x.hi<=((code).length:Int)/\0<=x.to/\x.to < ((code).length:Int))/\x.cls=1:=λx A=>by
   cases A
  refine eu [0,4,5,6,9,10,11,12,13] [4,5,6] (λe:Nat × Heap × List dc=>e.1<=code.length/\ji E e.2.1 e.2.2 pc kc Bc w pe ke Be ([]:List kg) (.slice none 0 0) []/\bz e.2.1 t vb M/\e.2.2.length=(code).length/\(∀ j (h:j < e.2.2.length),(j < e.1\/code.length<=j->Good u m (((code).length:Int)+2) e.2.2[j])/\(e.1<=j->j < code.length->rA u m e.2.2[j]))) (λe=>code.length-e.1)
   (λe=>([.v (.pointer (some ⟨t,0,none⟩)),.l 4 0,.l 5 0,.l 6 0,.v (.slice pc (code).length kc),.v (.slice pe w.length ke),.v (.int .i64 code.length),.v (.int .i64 ((code.length:Int))),.v (.int .i64 e.1)],
    [some [.slice cp u.aq.length cc,.slice q u.methods.length ae],some [.int .i64 m.cls,.int .i64 m.er,.slice ap m.args.length ac,.int .i64 m.out,.int .i64 m.locals,.slice none 0 0,.slice none 0 0,(.slice none 0 0)],some [.int .i64 0,.int .i64 0,.slice none 0 0,.int .i64 0,.int .i64 0,.slice none 0 0,.slice none 0 0,.slice none 0 0]],cN e.2.1 t vb M))
   (0,g2,code) ⟨Nat.zero_le _,Vp,r2,rfl,hX⟩ rfl ?_
  rintro⟨i,F,b⟩ ⟨hi,I,o,L,H⟩;simp only at hi I o L H ⊢;conv=>whnf
  apply aD<;>intro gi;all_goals conv=>whnf
  ·have lu:i < b.length:=by omega
   have W:=(H i lu).2 (Nat.le_refl _) O;have Vt:=Df W ok hn O;have aa:=I.at lu;obtain⟨N,J,e4,pre,post,t4,Q,zX,put⟩:=aa;have Qv:N≠t:=λD=>by have:=o.free;rw[<-D,Q]at this;cases this
   have T:dQ (cN F t vb M) N (0+i*3) 3=some (cJ b[i]):=bG (aX o.free) e4;have X:rd (cN F t vb M) N (0+i*3+1)=some (.int .i64 b[i].a):=aM T (i:=1) rfl;have Vu:∀ y,Good u m (((code).length:Int)+2) y->∀ j (h:j < (b.set i y).length),(j < i+1\/code.length<=j->Good u m (((code).length:Int)+2) (b.set i y)[j])/\(i+1<=j->j < code.length->rA u m (b.set i y)[j]):=λy hy j c=>by
    rw[List.length_set]at c;by_cases D:i=j
    ·subst D;refine⟨λ_=>by simpa using hy,λh=>O⟩
    rw[List.getElem_set_ne D];exact⟨λh=>(H j c).1 O,λz G=>(H j c).2 O G⟩
   have nu:Good u m (((code).length:Int)+2) b[i]->∀ j (h:j < b.length),(j < i+1\/code.length<=j->Good u m (((code).length:Int)+2) b[j])/\(i+1<=j->j < code.length->rA u m b[j]):=λhy j c=>by
    by_cases D:i=j
    ·subst D;exact⟨λ_=>hy,λh=>O⟩
    exact⟨λh=>(H j c).1 O,λz G=>(H j c).2 O G⟩
   generalize HX:b[i]=xi at W Vt e4 T X nu Q;obtain⟨g,B,d⟩:=xi;unfold cJ at e4 T;refine ay ?_;conv=>whnf
   refine aP J ?_;conv=>whnf
   refine dh T ?_;conv=>whnf
   refine MO o (iC g B d F) ?_;conv=>whnf
   cases c:dG ⟨g,B,d⟩
   ·conv=>whnf
    refine av ?_;conv=>whnf
    unfold dG at c;have c:=of_decide_eq_false c;refine cT (i+1,F,b) ⟨by simp only;omega,I,o,L,nu ?_⟩ (by simp only;omega) rfl;rcases W with ⟨z,_,NA,_⟩|⟨z,_⟩
    ·exact .inl ⟨z,c,NA⟩
    exact absurd z (by simp only at c ⊢;omega)
   unfold dG at c;have c:=of_decide_eq_true c;have Vv : -3<=B/\B<=-1/\d=0:=by
    rcases W with ⟨_,z,_⟩|⟨_,z,G⟩
    ·exact absurd c z
    simp only at z G;omega
   conv=>whnf
   refine ay ?_;conv=>whnf
   refine aP J ?_;conv=>whnf
   refine ld X ?_;conv=>whnf
   refine eR (by simp only;omega) ?_;conv=>whnf
   refine ay ?_;conv=>whnf
   refine aP J ?_;conv=>whnf
   refine ld X ?_;conv=>whnf
   have fin:∀(to:Int),0<=to/\to < ((code).length:Int)+2->ji E (F.set N (.cells (pre++cJ ⟨g,to,d⟩++post).toArray t4 (0,0))) (b.set i ⟨g,to,d⟩) pc kc Bc w pe ke Be ([]:List kg) (.slice none 0 0) []/\bz (F.set N (.cells (pre++cJ ⟨g,to,d⟩++post).toArray t4 (0,0))) t vb M/\(∀ j (h:j < (b.set i ⟨g,to,d⟩).length),(j < i+1\/code.length<=j->Good u m (((code).length:Int)+2) (b.set i ⟨g,to,d⟩)[j])/\(i+1<=j->j < code.length->rA u m (b.set i ⟨g,to,d⟩)[j])):=λto ht=>by
    have P5:=put ⟨g,to,d⟩ _ rfl;exact⟨P5,r.to P5.le (by simp[Heap.set,o.free];intro D;exact absurd D.symm Qv) O,Vu _ (.inr ⟨c,ht,Vv.2.2⟩)⟩
   have wr:∀ to:Int,dU (pre++cJ ⟨g,B,d⟩++post) (0+i*3+1) [.int .i64 to]=pre++cJ ⟨g,to,d⟩++post:=λto=>by
    rw[gW (i:=1) O (by simp[cJ])];rfl
   apply aD<;>intro g5;all_goals conv=>whnf
   ·apply aD<;>intro V;all_goals conv=>whnf
    ·have he:=Dh (a:=(0-B)*5+i) (n:=w.length) O O;have vU:(((0-B)*5+(i:Int)).tmod w.length).toNat < w.length:=by omega
     have aa:=tc I.oe vU;obtain⟨be,Vw,hle⟩:=aa;have CJ:=Vs _ (List.getElem_mem vU);have Kv:∃ to,w[(((0-B)*5+(i:Int)).tmod w.length).toNat]=to:=⟨_,rfl⟩
     obtain⟨to,Kv⟩:=Kv;rw[Kv]at CJ hle;have AV:rd (cN F t vb M) be (0+(((0-B)*5+(i:Int)).tmod w.length).toNat*1)=some (.int .i64 to):=aW (aX o.free) hle;refine ay ?_;conv=>whnf
     refine aP J ?_;conv=>whnf
     refine ld X ?_;conv=>whnf
     refine av ?_;conv=>whnf
     refine av ?_;conv=>whnf
     refine av ?_;conv=>whnf
     refine ay ?_;conv=>whnf
     refine ob he ?_;conv=>whnf
     refine aP Vw ?_;conv=>whnf
     refine ld AV ?_;conv=>whnf
     refine ay ?_;conv=>whnf
     refine aP J ?_;conv=>whnf
     refine gS o.free Q (by simp[cJ];omega) (wr (to)) ?_;conv=>whnf
     refine av ?_;conv=>whnf
     have s:=fin (to) ⟨O,O⟩;exact cT (i+1,_,b.set i ⟨g,to,d⟩) ⟨by simp only;omega,s.1,s.2.1,by simp only[List.length_set];exact L,s.2.2⟩ (by simp only;omega) rfl
    have vr:=Hj;refine ay ?_;conv=>whnf
    refine aP J ?_;conv=>whnf
    refine gS o.free Q (by simp[cJ];omega) (wr ((code.length:Int))) ?_;conv=>whnf
    refine av ?_;conv=>whnf
    have s:=fin ((code.length:Int)) vr;exact cT (i+1,_,b.set i ⟨g,(code.length:Int),d⟩) ⟨by simp only;omega,s.1,s.2.1,by simp only[List.length_set];exact L,s.2.2⟩ (by simp only;omega) rfl
   have vr:=Hj;refine ay ?_;conv=>whnf
   refine aP J ?_;conv=>whnf
   refine gS o.free Q (by simp[cJ];omega) (wr ((code.length:Int))) ?_;conv=>whnf
   refine av ?_;conv=>whnf
   have s:=fin ((code.length:Int)) vr;exact cT (i+1,_,b.set i ⟨g,(code.length:Int),d⟩) ⟨by simp only;omega,s.1,s.2.1,by simp only[List.length_set];exact L,s.2.2⟩ (by simp only;omega) rfl
  have jV:∀ x∈b,Good u m (((code).length:Int)+2) x:=λx A=>by
   obtain⟨j,c,rfl⟩:=List.mem_iff_getElem.1 A;exact(H j c).1 O
  have Hl:∀ x∈(([]:List kg):List kg),(0<=x.lo/\x.lo < x.hi/\x.hi<=100/\0<=x.to/\x.to < 100)/\x.cls=1:=λx A=>by
   have:=NN x A;omega
  have Vx:=mN I h0 S Ak ha (gD _) Hl;refine fq o (vh _ _ o O (Vx.le (aQ _ _))) (λv g5 q5 l5 r5 q50 q51 hA=>?_);obtain⟨b5,x,y,rfl,vG,e5,Ho⟩:=hA;have Vy:=I.aJ l5;have Ia:ej u {m with code:=b++[x,y],aT:=[],catches:=([]:List kg)} x/\ej u {m with code:=b++[x,y],aT:=[],catches:=([]:List kg)} y:=by
   have G:=ok.1;rcases Ho with ⟨rfl,rfl⟩|⟨rfl,rfl|⟨ad,rfl,w0,w1⟩⟩
   ·exact⟨(aL (p:=5) (q:=0) rfl).2 ⟨by unfold br;simp;omega,rfl⟩,(aL (p:=0) (q:=0) rfl).2 ⟨rfl,rfl⟩⟩
   ·exact⟨(aL (p:=0) (q:=0) rfl).2 ⟨rfl,rfl⟩,(aL (p:=0) (q:=0) rfl).2 ⟨rfl,rfl⟩⟩
   exact⟨(aL (p:=1) (q:=0) rfl).2 ⟨by unfold br;simp[eA];omega,rfl⟩,(aL (p:=0) (q:=0) rfl).2 ⟨rfl,rfl⟩⟩
  have Vz:Kd (b++[x,y]):=by
   refine⟨b++[x],y,Z,λC f=>?_,?_⟩
   ·rcases List.mem_append.1 f with f|f
    ·exact(jV C f).k
    rw[List.mem_singleton.1 f];rcases Ho with ⟨_,rfl⟩|⟨_,rfl|⟨ad,rfl,_⟩⟩<;>simp
   rcases Ho with ⟨rfl,_⟩|⟨rfl,_⟩<;>simp
  have VA:dQ (cN g5 t vb q5) b5 0 (2*3)=some (cJ x++cJ y):=by
   refine bG (aX r5.free) ?_;rw[bK e5 _ _ (by simp[cJ])];rfl
  conv=>whnf
  refine Dg VA ?_;conv=>whnf
  refine Vy.app r r5 [x,y] O rfl rfl rfl O Z rfl (Nat.le_of_ble_eq_true rfl) (λp6 k6 V B6 K r6=>?_);have f6:=wY K Z;obtain⟨VC,rfl,MY⟩:=f6;conv=>whnf
  have Bz:∀ C∈b++[x,y],ej u {m with code:=b++[x,y],aT:=[],catches:=([]:List kg)} C:=λC f=>by
   simp only[List.mem_append,List.mem_cons,List.not_mem_nil,or_false]at f;rcases f with f|rfl|rfl
   ·exact(jV C f).ins rfl (by simp[L])
   ·exact Ia.1
   exact Ia.2
  have KO:=Heap.le_trans h0 K.le;have l6:(since g0 E).le (since g0 V):=bE g0 K.le;have mR:=Aj K h0 (by simp;omega) (λC f=>rC (Bz C f) ok hn (by simp only;omega) (by simp;omega));have MZ:=mN K h0 S Ak ha mR Hl;have P:MJ u {m with code:=b++[x,y],aT:=[],catches:=([]:List kg)}:=⟨S,by simp;omega,Bz,by
   refine⟨Z,λC f=>?_⟩;have Ls:=NN C f;have hc:=ok.1;have P6:(b++[x,y]).length=b.length+2:=by simp
   exact⟨by simp only[P6];omega,by simp only[P6];omega,O,by rw[Ls.2];exact qm ok O O⟩⟩
  refine Jw r6 KO (nS _ u {m with code:=b++[x,y],aT:=[],catches:=([]:List kg)} (since g0 V) ap (some ⟨VC,0,none⟩) none none m.args.length _ 0 0 ac k6 0 0 (oT.le l6) MZ hV P) (λv g7 l7 r7 hr=>?_);obtain⟨b7,c7,ab,rfl,aA,nA,vA⟩:=hr;conv=>whnf
  obtain⟨a8,c8,s8,k8,GU,w1,w2,w3,w4,w5,w6,_,w8⟩:=MZ;simp only[List.cons.injEq,and_true,true_and]at GU;obtain⟨rfl,rfl,rfl,rfl⟩:=GU;have ls:=bE g0 l7;have nA':ab.length=b.length+2:=by rw[nA];simp
  refine⟨_,_,rfl,Heap.le_trans K.le l7,r7.free,O,O,_,{m with code:=b++[x,y],aT:=ab,catches:=([]:List kg)},rfl,⟨rfl,rfl,rfl,rfl,rfl⟩,⟨_,_,_,_,rfl,w1,w2,w3,w4,w5.le ls,w6.le ls (λ_ _ A=>A),aA.uZ O,w8.le ls (λ_ _ A=>A)⟩,⟨⟨P.head,P.len,P.code,P.cat⟩,nA,vA⟩,⟨_,_,_,_,_,rfl,⟨mM MY,bq l6 aA.fr⟩,.inl ⟨rfl,rfl⟩⟩,Vz⟩
def Ei (k:Int) (A:List dF):Prop:=∀ s∈A,s.told=true->(s.locals.length:Int)=k
theorem nP.VD {n:Nat} {k:Int} {A:List dF} (h:nP n k A) (c:0<=k):Ei k A:=λs a b=>by
 have:=(h s a b).loc;omega
structure lK (h:Heap) (b:Nat) (rec:List Value) (m:cu):Prop where
 ex:∃ a c s k,rec=[.int .i64 m.cls,.int .i64 m.er,a,.int .i64 m.out,.int .i64 m.locals,c,s,k]/\cH m.cls/\cH m.er/\cH m.out/\cH m.locals /\
  (oP (bh h b) a m.args/\m.args.length<=100)/\Row 3 xJ h c m.code/\Row 3 jJ h s m.aT/\Row 4 y9 h k m.catches /\
  ∀ p n cc,s=.slice p n cc->n=0\/∃ bs off,p=some ⟨bs,off,none⟩/\bs≠b
theorem lK.VE {h:Heap} {b:Nat} {a:List Value} {m:cu} (o:lK h b a m):dO h a m:=by
 obtain⟨c,d,s,k,e,i1,i2,i3,p,f,g,i,j,_⟩:=o.ex;exact⟨c,d,s,k,e,i1,i2,i3,p,(f.1.ints O).le (eV h b),g,i,j⟩
theorem lK.le {h h':Heap} {b:Nat} {e:List Value} {m:cu} (a:h.le h') (s:lK h b e m):lK h' b e m:=by
 obtain⟨f,g,u,k,i,i1,i2,i3,t,d,j,o,p,q⟩:=s.ex;exact⟨f,g,u,k,i,i1,i2,i3,t,⟨d.1.le (bV b a),d.2⟩,j.le a (λ_ _ c=>c),o.le a (λ_ _ c=>c.le a),p.le a (λ_ _ c=>c),q⟩
structure Cj (m m':cu):Prop where
 cls:m'.cls=m.cls
 er:m'.er=m.er
 out:m'.out=m.out
 locals:m'.locals=m.locals
 code:m'.code.length=m.code.length
 aT:m'.aT.length=m.aT.length
 catches:m'.catches.length=m.catches.length
 VF:∀ k,Ei k m.aT->Ei k m'.aT
def P7 (s a:dF):Prop:=a.told=s.told/\a.locals.length=s.locals.length
theorem Al {j b:Heap} (q:tD j b) {p:Option Addr} {n c:Nat} {l:List dF} (A:Row 3 jJ j (.slice p n c) l) (m:n=0\/∃ f off,p=some ⟨f,off,none⟩/\b f=j f) :
  ∃ d,Row 3 jJ b (.slice p n c) d/\d.length=l.length/\∀ k,Ei k l->Ei k d:=by
 obtain⟨L,S,K,e,M,w⟩:=A;simp only[Value.slice.injEq]at e;obtain⟨rfl,rfl,rfl⟩:=e;rcases w with rfl|⟨s,off,rfl,D⟩
 ·exact⟨[],⟨Z,p,c,rfl,Z,.inl rfl⟩,rfl,λk h=>h⟩
 rcases m with m|⟨f,R,e,y⟩
 ·have:l=[]:=List.eq_nil_of_length_eq_zero m;subst this;exact⟨[],⟨Z,_,c,rfl,Z,.inl rfl⟩,rfl,λk h=>h⟩
 simp only[Option.some.injEq,Addr.mk.injEq,and_true]at e;obtain⟨rfl,rfl⟩:=e;obtain⟨d,t,u⟩:=gT (Q:=λi (x:dF)=>∀ h:i < l.length,P7 l[i] x/\∃ o,dQ b s (off+i*3) 3=some o/\jJ b o x) l.length (λi a=>by
  obtain⟨o,v,N,P,rfl,i1,i2⟩:=D i l[i] (by simp[a]);obtain⟨G,E,I⟩:=eP q i1;obtain⟨H,F,_⟩:=eP q i2;exact⟨⟨l[i].told,G,H⟩,λ_=>⟨⟨rfl,I⟩,_,by rw[qG y];exact v,_,_,rfl,E,F⟩⟩)
 refine⟨d,⟨O,_,c,by rw[t],O,.inr ⟨s,off,rfl,λi x a=>?_⟩⟩,t,λk z J B C=>?_⟩
 ·have g:i < l.length:=by have:=(List.getElem?_eq_some_iff.1 a).1;omega
  exact(u i x a g).2
 obtain⟨i,a⟩:=List.getElem?_of_mem B;have g:i < l.length:=by have:=(List.getElem?_eq_some_iff.1 a).1;omega
 have:=(u i J a g).1;rw[this.2];exact z _ (List.getElem_mem g) (by rw[<-this.1];exact C)
theorem lK.over {h h':Heap} {b:Nat} {j:List Value} {m:cu} (z:lK h b j m) (a:tD h h') (i:∀ x,x≠b->h' x=h x):∃ d,lK h' b j d/\Cj m d/\d.args=m.args:=by
 obtain⟨o,p,P,k,q,i1,i2,i3,A,u,v,f,w,g⟩:=z.ex;have y:bh h' b=bh h b:=by
  funext x
  unfold bh;by_cases c:x=b
  ·simp[c]
  simp[c,i x c]
 obtain⟨B,I,E⟩:=fZ (tO a) v;obtain⟨D,K,G⟩:=fZ (tP a) w;obtain⟨N,M,rfl,_,_⟩:=f.len;obtain⟨C,J,F,L⟩:=Al a f ((g _ _ _ rfl).imp id λ⟨e,H,s,t⟩=>⟨e,H,s,i e t⟩);exact⟨⟨m.cls,m.er,m.args,m.out,m.locals,B,C,D⟩,⟨o,p,_,k,q,i1,i2,i3,A,by rw[y];exact u,I,J,K,g⟩,⟨rfl,rfl,rfl,rfl,E,F,G,L⟩,rfl⟩
structure sF (h:Heap) (b c:Nat) (recs:List (List Value)) (A:List cu):Prop where
 own:bW 8 h (.slice (some ⟨b,0,none⟩) A.length c) recs [b]
 len:recs.length=A.length
 each:∀ i (h1:i < recs.length) (h2:i < A.length),lK h b recs[i] A[i]
theorem sF.le {h h':Heap} {b c:Nat} {recs:List (List Value)} {A:List cu} (r:sF h b c recs A) (a:h.le h'):sF h' b c recs A :=
 ⟨r.own.aJ (cD.of_le a _),r.len,λi d e=>(r.each i d e).le a⟩
theorem sF.uZ {h:Heap} {b c:Nat} {recs:List (List Value)} {A:List cu} (r:sF h b c recs A) (z:A.length<=1000):Row 8 dO h (.slice (some ⟨b,0,none⟩) A.length c) A:=by
 obtain⟨j,⟨a,_⟩|⟨v,w,rest,C,a,x,f,g,_⟩⟩:=r.own
 ·cases a
 simp only[Value.slice.injEq,Option.some.injEq,Addr.mk.injEq]at a;obtain⟨⟨rfl,_⟩,B,rfl⟩:=a;refine⟨O,_,_,rfl,O,.inr ⟨b,0,rfl,λi D p=>?_⟩⟩;obtain⟨e,rfl⟩:=List.getElem?_eq_some_iff.1 p;have d:i < recs.length:=by rw[r.len];exact e
 refine⟨recs[i],?_,(r.each i d e).VE⟩;have q:(recs.take i).flatten.length=i*8:=by
  rw[bQ (sz:=8)]
  ·rw[List.length_take,Nat.min_eq_left O]
  intro y u;exact j y (List.mem_of_mem_take u)
 have s:recs.flatten++rest=(recs.take i).flatten++(recs[i]++((recs.drop (i+1)).flatten++rest)):=by
  have m:recs=recs.take i++recs[i]::recs.drop (i+1):=by rw[<-List.drop_eq_getElem_cons d,List.take_append_drop]
  have o:=congrArg List.flatten m;rw[o];simp only[List.flatten_append,List.flatten_cons,List.append_assoc]
 have t:recs[i].length=8:=j _ (List.getElem_mem _);rw[s]at f g;rw[bK f 8 (0+i*8) (by simp only[List.length_append]at g ⊢;omega),Nat.zero_add,<-q,List.drop_left,<-t,List.take_left]
theorem sF.at {h:Heap} {b c:Nat} {recs:List (List Value)} {A:List cu} (r:sF h b c recs A) {i:Nat} (g:i < A.length) :
  ∃ d:i < recs.length,dQ h b (0+i*8) 8=some recs[i]/\lK h b recs[i] A[i]/\∃ pre post t,h b=some (.cells (pre++recs[i]++post).toArray t (0,0))/\pre.length=i*8 /\
   ∀ a h',a.length=8->h' b=some (.cells (pre++a++post).toArray t (0,0))->bW 8 h' (.slice (some ⟨b,0,none⟩) A.length c) (recs.set i a) [b]:=by
 have d:i < recs.length:=by rw[r.len];exact g
 have q:recs=recs.take i++recs[i]::recs.drop (i+1):=by rw[<-List.drop_eq_getElem_cons d,List.take_append_drop]
 have s:bW 8 h (.slice (some ⟨b,0,none⟩) A.length c) (recs.take i++recs[i]::recs.drop (i+1)) [b]:=by rw[<-q];exact r.own
 obtain⟨y,z,pre,post,x,j,f,u,m,B,w⟩:=s.at;simp only[Value.slice.injEq,Option.some.injEq,Addr.mk.injEq]at j;obtain⟨⟨rfl,_⟩,_,rfl⟩:=j;have e:pre.length=i*8:=by rw[u,List.length_take,Nat.min_eq_left O]
 refine⟨d,?_,r.each i d g,pre,post,x,f,e,λa h' p o=>?_⟩
 ·rw[bK f 8 (0+i*8) (by simp[e,m])];rw[List.append_assoc,Nat.zero_add,<-e,List.drop_left,List.take_left' m]
 have v:recs.set i a=recs.take i++a::recs.drop (i+1):=by rw[List.set_eq_take_append_cons_drop,if_pos d]
 rw[v];exact w h' a o p
def Am (i:List Value):Prop:=∃(e f g h:Int) (a b c d:Value),i=[.int .i64 e,.int .i64 f,a,.int .i64 g,.int .i64 h,b,c,d]/\cH e/\cH f/\cH g/\cH h/\(∀ x,a≠.int .i64 x)/\(∀ x,b≠.int .i64 x)/\(∀ x,c≠.int .i64 x)/\∀ x,d≠.int .i64 x
theorem lK.Ck {h:Heap} {b:Nat} {a:List Value} {m:cu} (i:lK h b a m):Am a:=by
 obtain⟨o,p,s,k,e,i1,i2,i3,j,c,d,f,g,_⟩:=i.ex;obtain⟨_,_,rfl⟩:=c.1.form;obtain⟨_,_,rfl,_⟩:=d.len;obtain⟨_,_,rfl,_⟩:=f.len;obtain⟨_,_,rfl,_⟩:=g.len;exact⟨_,_,_,_,_,_,_,_,e,i1,i2,i3,j,(λx h=>nomatch h),(λx h=>nomatch h),(λx h=>nomatch h),(λx h=>nomatch h)⟩
theorem rD {g:Heap} {b:Nat} {pre post D E:List Value} {t:TypeId} (w:g b=some (.cells (pre++D++post).toArray t (0,0))) (F:Am D) (G:Am E):tD g (g.set b (.cells (pre++E++post).toArray t (0,0))):=by
 obtain⟨X,Y,x3,x4,S,T,V,W,rfl,_,_,_,_,N,P,Q,R⟩:=F;obtain⟨d,e,f,h,p,q,s,u,rfl,J,K,L,M,_⟩:=G;intro c m x a y;by_cases B:c=b
 ·subst B;have z:(g.set c (.cells (pre++[Value.int .i64 d,.int .i64 e,p,.int .i64 f,.int .i64 h,q,s,u]++post).toArray t (0,0))) c=some (.cells (pre++[Value.int .i64 d,.int .i64 e,p,.int .i64 f,.int .i64 h,q,s,u]++post).toArray t (0,0)):=cB _ _ _;by_cases C:m < pre.length
  ·refine⟨x,?_,y⟩;simp only[rd,w,List.getElem?_toArray]at a;rw[List.append_assoc,List.getElem?_append_left C]at a;simp only[rd,z,List.getElem?_toArray];rw[List.append_assoc,List.getElem?_append_left C];exact a
  by_cases e2:m < pre.length+8
  ·have I:∃ j,m=pre.length+j/\j < 8:=⟨m-pre.length,O,O⟩
   obtain⟨j,rfl,hj⟩:=I;have o:∀ i v,[Value.int .i64 X,.int .i64 Y,S,.int .i64 x3,.int .i64 x4,T,V,W][i]? = some v->rd g c (pre.length+i)=some v:=λi v A=>bA w rfl A;have same:∀ i v,[Value.int .i64 d,.int .i64 e,p,.int .i64 f,.int .i64 h,q,s,u][i]? = some v->rd (g.set c (.cells (pre++[Value.int .i64 d,.int .i64 e,p,.int .i64 f,.int .i64 h,q,s,u]++post).toArray t (0,0))) c (pre.length+i)=some v:=λi v A=>bA z rfl A;have H:j=0\/j=1\/j=2\/j=3\/j=4\/j=5\/j=6\/j=7:=by omega
   rcases H with rfl|rfl|rfl|rfl|rfl|rfl|rfl|rfl
   ·exact⟨d,same 0 _ rfl,J⟩
   ·exact⟨e,same 1 _ rfl,K⟩
   ·rw[o 2 _ rfl]at a;exact absurd (Option.some.inj a) (N x)
   ·exact⟨f,same 3 _ rfl,L⟩
   ·exact⟨h,same 4 _ rfl,M⟩
   ·rw[o 5 _ rfl]at a;exact absurd (Option.some.inj a) (P x)
   ·rw[o 6 _ rfl]at a;exact absurd (Option.some.inj a) (Q x)
   rw[o 7 _ rfl]at a;exact absurd (Option.some.inj a) (R x)
  refine⟨x,?_,y⟩;simp only[rd,w,List.getElem?_toArray]at a;simp only[rd,z,List.getElem?_toArray];rw[List.getElem?_append_right (by simp;omega)]at a ⊢;simpa using a
 exact⟨x,by rw[kq B];exact a,y⟩
theorem sF.put {h:Heap} {b c:Nat} {recs:List (List Value)} {A:List cu} (r:sF h b c recs A) {i:Nat} (G:i < A.length) {a:List Value} {v:cu} {pre post:List Value} {t:TypeId} (J:i < recs.length) (F:h b=some (.cells (pre++recs[i]++post).toArray t (0,0)))
  (M:∀ a h',a.length=8->h' b=some (.cells (pre++a++post).toArray t (0,0))->bW 8 h' (.slice (some ⟨b,0,none⟩) A.length c) (recs.set i a) [b]) (s:lK h b a v) :
  ∃ d g,sF (h.set b (.cells (pre++a++post).toArray t (0,0))) b c (recs.set i a) d/\d.length=A.length/\(∀ j (f:j < A.length) (m:j < d.length),j≠i->Cj A[j] d[j]/\d[j].args=A[j].args)/\(∀ m:i < d.length,d[i]=g)/\Cj v g/\g.args=v.args:=by
 have w:=rD F (r.each i J G).Ck s.Ck;have z:∀ x,x≠b->(h.set b (.cells (pre++a++post).toArray t (0,0))) x=h x:=λx K=>by simp[Heap.set,K]
 have H:a.length=8:=by obtain⟨_,_,_,_,_,_,_,_,o,_⟩:=s.Ck;rw[o];rfl
 obtain⟨g,f2,L,C⟩:=s.over w z;have I:∀ j,j < A.length->∃ e,(∀ f:j < (recs.set i a).length,lK (h.set b (.cells (pre++a++post).toArray t (0,0))) b (recs.set i a)[j] e)/\(∀ f:j < A.length,j≠i->Cj A[j] e/\e.args=A[j].args)/\(j=i->e=g):=by
  intro j y;by_cases o:j=i
  ·subst o;exact⟨g,λf=>by simpa using f2,λ_ u=>absurd rfl u,λ_=>rfl⟩
  obtain⟨e,E,k,B⟩:=(r.each j (by rw[r.len];exact y) y).over w z;refine⟨e,λf=>?_,λ_ _=>⟨k,B⟩,λh=>absurd h o⟩;rw[List.getElem_set_ne (λD=>o D.symm)];exact E
 obtain⟨d,p,q⟩:=gT (Q:=λj e=>(∀ f:j < (recs.set i a).length,lK (h.set b (.cells (pre++a++post).toArray t (0,0))) b (recs.set i a)[j] e)/\(∀ f:j < A.length,j≠i->Cj A[j] e/\e.args=A[j].args)/\(j=i->e=g)) A.length I;refine⟨d,g,⟨?_,by rw[List.length_set,p];exact r.len,λj f m=>(q j d[j] (by simp[m])).1 f⟩,p,λj f m u=>(q j d[j] (by simp[m])).2.1 f u,λm=>(q i d[i] (by simp[m])).2.2 rfl,L,C⟩;rw[p];exact M a _ H (cB _ _ _)
def KV (g0:Heap):Prop:=∀(b:Nat) (a:Array Value) (t:TypeId) (z:Nat × Nat),g0 b=some (Obj.cells a t z)->∃(i:Nat) (x:Int),a[i]? = some (.int .u8 x)
theorem oP.since {g0 h:Heap} {b:Nat} {a:Value} {l:List Int} (o:KV g0) (q:g0.le h) (g:oP (bh h b) a l):oP (bh (Go.Proofs.since g0 h) b) a l:=by
 obtain⟨B,g⟩:=g;rcases g with ⟨rfl,rfl,rfl⟩|⟨c,r,t,rfl,e,p,rfl⟩
 ·exact⟨[],.inl ⟨rfl,rfl,rfl⟩⟩
 refine⟨[c],.inr ⟨c,r,t,rfl,?_,p,rfl⟩⟩;have j:c≠b:=by
  rintro rfl;simp[bh]at e
 have i:h c=some (.cells ((l++r).map (Value.int .i64)).toArray t (0,0)):=by
  unfold bh at e;rw[if_neg j]at e;exact e
 have s:g0 c=none:=by
  cases f:g0 c with
  | none=>rfl
  | some v =>
   have:=q _ _ f;rw[i]at this;rw[<-Option.some.inj this]at f;obtain⟨u,x,d⟩:=o _ _ _ _ f;simp only[List.getElem?_toArray,List.getElem?_map]at d;cases m:(l++r)[u]? with
   | none=>rw[m]at d;cases d
   | some y=>rw[m]at d;simp at d
 unfold bh;rw[if_neg j,ef s];exact i
theorem Hp {h:Heap} {v:Value} {cs:List dH} {B:List Nat} (d:dR lI 2 h v cs B) (ok:cn cs):eD h v cs:=by
 refine d.row (by have:=ok.2.1;omega) λx j C b a=>?_;obtain⟨i,c,rfl⟩:=List.mem_iff_getElem.1 b;obtain⟨w,rfl,o⟩:=a;obtain⟨f1,f2,f3,f4,f5⟩:=ok.2.2 i c;have m:=ok.2.1;have f:cH cs[i].bO:=by
  unfold cH;have:i=0\/i=1\/1 < i:=by omega
  rcases this with e|e|e
  ·have:=f2 e;omega
  ·have:=f3 e;omega
  have:=f4 e;omega
 refine⟨w,rfl,f,bW.yu o O λt g=>⟨rfl,?_⟩⟩;have:=f1 t g;unfold cL at this;unfold cH;omega
structure Ej (h:Heap) (bm:Nat) (n:Nat) (whole:Bool) (rec:List Value) (m:cu):Prop where
 head:eW n m
 hd:whole=false->∃ a,rec=dS m.cls m.er a m.out m.locals/\m.code=[]/\m.aT=[]/\m.catches=[]
 wh:whole=true->(1<=m.code.length/\m.code.length<=12)/\m.aT.length=m.code.length/\Ei m.locals m.aT /\
  ∃ a bc cc bs cs kv,rec=[.int .i64 m.cls,.int .i64 m.er,a,.int .i64 m.out,.int .i64 m.locals,.slice (some ⟨bc,0,none⟩) m.code.length cc,.slice (some ⟨bs,0,none⟩) m.aT.length cs,kv]/\(bc≠bm/\bs≠bm) /\
   ((kv=.slice none 0 0/\m.catches=[])\/∃ bk,kv=.slice (some ⟨bk,0,none⟩) 1 1/\m.catches.length=1)
theorem Cj.mid {h:Heap} {bm n:Nat} {whole:Bool} {i:List Value} {m g:cu} (k:Cj m g) (y:g.args=m.args) (d:Ej h bm n whole i m):Ej h bm n whole i g:=by
 refine⟨?_,λf=>?_,λf=>?_⟩
 ·have:=d.head;unfold eW cj at this ⊢;rw[k.cls,k.er,k.out,k.locals,y];exact this
 ·obtain⟨a,e,b,c,s⟩:=d.hd f;refine⟨a,by rw[k.cls,k.er,k.out,k.locals];exact e,List.eq_nil_of_length_eq_zero (by rw[k.code,b];rfl),List.eq_nil_of_length_eq_zero (by rw[k.aT,c];rfl),List.eq_nil_of_length_eq_zero (by rw[k.catches,s];rfl)⟩
 obtain⟨t,u,v,a,A,p,o,q,z,e,w,x⟩:=d.wh f;refine⟨by rw[k.code];exact t,by rw[k.code,k.aT];exact u,by rw[k.locals];exact k.VF _ v,a,A,p,o,q,z,by rw[k.cls,k.er,k.out,k.locals,k.code,k.aT];exact e,w,x.imp (λh=>⟨h.1,List.eq_nil_of_length_eq_zero (by rw[k.catches,h.2];rfl)⟩) λ⟨j,b,c⟩=>⟨j,b,by rw[k.catches];exact c⟩⟩
def lM (ok:List dc->Prop) (h:Heap) (b n:Nat):Prop:=∃ a:List dc,a.length=n/\ok a/\∀ i (c:i < a.length),dQ h b (0+i*3) 3=some (cJ a[i])
abbrev KW:=lM Kd
theorem lM.le {ok:List dc->Prop} {h h':Heap} {a n:Nat} (d:h.le h') (c:lM ok h a n):lM ok h' a n:=by
 obtain⟨g,e,k,f⟩:=c;exact⟨g,e,k,λi b=>bG d (f i b)⟩
theorem lM.Hq {ok:List dc->Prop} {h h':Heap} {a n:Nat} (d:h' a=h a) (c:lM ok h a n):lM ok h' a n:=by
 obtain⟨g,e,k,f⟩:=c;exact⟨g,e,k,λi b=>by rw[qG d];exact f i b⟩
def VG (v:Value) (a:Nat):Prop:=∀ b o n c,v=.slice (some ⟨b,o,none⟩) n c->b≠a
def P8 (i a:Nat) (b:List Value):Prop:=(∀ v,b[2]? = some v->VG v a)/\(0 < i->∀ v,b[5]? = some v->VG v a)/\∀ v,b[6]? = some v->VG v a
def eg (ok:List dc->Prop) (h:Heap) (bm:Nat) (recs:List (List Value)):Prop:=∃ a n c,(∃ r,recs[0]? = some r/\r[5]? = some (.slice (some ⟨a,0,none⟩) n c))/\a≠bm/\lM ok h a n/\∀ i r,recs[i]? = some r->P8 i a r
abbrev An:=eg Kd
structure lN (g0 g:Heap) (cp:Option Addr) (cc:Nat) (cs:List dH) (bm cm:Nat) (recs:List (List Value)) (A:List cu) (k:Nat):Prop where
 cls:eD (bh (since g0 g) bm) (.slice cp cs.length cc) cs
 ok:cn cs
 row:sF (since g0 g) bm cm recs A
 num:1<=A.length/\A.length<=4
 mid:∀ i (h1:i < recs.length) (h2:i < A.length),Ej (since g0 g) bm cs.length (decide (i < k)) recs[i] A[i]
 fst:0 < k->An (since g0 g) bm recs
 Q5:∀ m∈A,m.cls≠0
theorem eg.le {ok:List dc->Prop} {h h':Heap} {bm:Nat} {recs:List (List Value)} (g:h.le h') (f:eg ok h bm recs):eg ok h' bm recs:=by
 obtain⟨a,n,c,e,i,d,b⟩:=f;exact⟨a,n,c,e,i,d.le g,b⟩
theorem lN.aJ {g0 g h:Heap} {f:Option Addr} {d:Nat} {cs:List dH} {bm e:Nat} {recs:List (List Value)} {A:List cu} {k:Nat} (u:lN g0 g f d cs bm e recs A k) (a:g.le h):lN g0 h f d cs bm e recs A k :=
 ⟨u.cls.le (bV _ (bE g0 a)) (λ_ _ m=>m.le (bV _ (bE g0 a))),u.ok,u.row.le (bE g0 a),u.num,λi b c=>⟨(u.mid i b c).head,(u.mid i b c).hd,(u.mid i b c).wh⟩,λj=>eg.le (bE g0 a) (u.fst j),u.Q5⟩
theorem lN.Ek {g0 g:Heap} {c:Option Addr} {a:Nat} {cs:List dH} {bm b:Nat} {recs:List (List Value)} {A:List cu} {k:Nat} (u:lN g0 g c a cs bm b recs A k):cZ (since g0 g) [.slice c cs.length a,.slice (some ⟨bm,0,none⟩) A.length b] ⟨cs,A⟩ :=
 ⟨_,_,rfl,u.cls.le (eV _ _) (λ_ _ d=>d.le (eV _ _)),u.row.uZ (by have:=u.num;omega)⟩
theorem lN.VH {g0 g:Heap} {d:Option Addr} {b:Nat} {cs:List dH} {bm c:Nat} {recs:List (List Value)} {A:List cu} {k:Nat} (u:lN g0 g d b cs bm c recs A k):D8 ⟨cs,A⟩:=by
 refine⟨u.ok,λm e=>?_⟩;obtain⟨i,a,rfl⟩:=List.mem_iff_getElem.1 e;have:=(u.mid i (by rw[u.row.len];exact a) a).head;have f:=this.2.1;exact⟨by show A[i].args.length<=3;omega,this.2.2.2.1,this.2.2.1⟩
theorem lN.fresh {g0 g:Heap} {c:Option Addr} {a:Nat} {cs:List dH} {bm b:Nat} {recs:List (List Value)} {A:List cu} {k:Nat} (u:lN g0 g c a cs bm b recs A k):g0 bm=none/\∃ o,g bm=some o:=by
 obtain⟨o,f⟩:=u.row.own.in bm Z;obtain⟨d,e⟩:=dK f;exact⟨d,o,e⟩
theorem eg.Hq {ok:List dc->Prop} {h h':Heap} {bm:Nat} {recs:List (List Value)} (f:eg ok h bm recs) (i:∀ x,x≠bm->h' x=h x):eg ok h' bm recs:=by
 obtain⟨a,n,c,e,b,g,d⟩:=f;exact⟨a,n,c,e,b,g.Hq (i a b),d⟩
theorem Di {h:Heap} {a n:Nat} (b:KW h a n):∃ x:Int,rd h a 0=some (.int .i64 x):=by
 obtain⟨g,e,d,c⟩:=b;obtain⟨f,y,rfl,_⟩:=d;exact⟨_,aM (c 0 Z) (i:=0) rfl⟩
theorem Hr {h G:Heap} {u:aS} {m y:cu} {a:Value} {E:List Value} {bm k:Nat} {recs:List (List Value)} (X:h.le G) (made:Ai h G u m a E y) (T:∃ o,h bm=some o) (q:k < recs.length) (F:∀ r:List Value,recs[k]? = some r->r[2]? = some a)
  (H:∀(i:Nat) (r:List Value) (v:Value),recs[i]? = some r->r[2]? = some v->∀ b o n c,v=.slice (some ⟨b,o,none⟩) n c->∃ C,h b=some C) (h0:k=0->∀(i:Nat) (r:List Value),recs[i]? = some r->r[5]? = some (Value.slice none 0 0)/\r[6]? = some (Value.slice none 0 0)) (W:0 < k->An h bm recs):An G bm (recs.set k E):=by
 obtain⟨D,kc,bs,ks,kv,s,t,JD⟩:=made.form.form;have R:=H k _ a (List.getElem?_eq_getElem q) (F _ (List.getElem?_eq_getElem q));have pV:D≠bm:=by
  rintro rfl;obtain⟨o,f⟩:=T;rw[t.1]at f;cases f
 obtain⟨a0,c0,s0,k0,N,_,_,_,_,w1,w2,w3,_⟩:=made.read;have A:=N;rw[s]at A;simp only[List.cons.injEq,and_true,true_and]at A;obtain⟨rfl,rfl,rfl,rfl⟩:=A;have M:=made.kd;have K:KW G D y.code.length:=⟨y.code,rfl,M,λi p=>by
  obtain⟨b,off,vs,w,e,d⟩:=w2.get p;simp only[Option.some.injEq,Addr.mk.injEq,and_true]at w;obtain⟨rfl,rfl⟩:=w;obtain⟨rfl,_⟩:=d;exact e⟩
 have uC:0 < y.code.length:=by obtain⟨init,ab,s,_⟩:=M;rw[s];simp
 by_cases L:k=0
 ·subst L;refine⟨D,_,kc,⟨E,by simp[q],by rw[s];rfl⟩,pV,K,λi r e=>?_⟩;by_cases p:i=0
  ·subst p;rw[List.getElem?_set_self q]at e;simp only[Option.some.injEq]at e;subst e;rw[s];refine⟨λv d=>?_,λj=>absurd j O,λv d=>?_⟩
   ·simp only[List.getElem?_cons_succ,List.getElem?_cons_zero,Option.some.injEq]at d;subst d;rintro b o n c rfl rfl;obtain⟨C,f⟩:=R _ _ _ _ rfl;rw[t.1]at f;cases f
   simp only[List.getElem?_cons_succ,List.getElem?_cons_zero,Option.some.injEq]at d;subst d;rintro b o n c g rfl;simp only[Value.slice.injEq,Option.some.injEq,Addr.mk.injEq]at g;obtain⟨⟨rfl,_⟩,_⟩:=g;obtain⟨aa,B⟩:=Di K;obtain⟨b,off,vs,w,e,d⟩:=w3.get (i:=0) (by rw[made.ms.num];exact uC);simp only[Option.some.injEq,Addr.mk.injEq,and_true]at w;obtain⟨rfl,rfl⟩:=w;obtain⟨l1,l2,rfl,_⟩:=d;have:=aM e (i:=0) rfl;simp only[Nat.zero_mul,Nat.add_zero]at this;rw[B]at this;cases this
  rw[List.getElem?_set_ne (λj=>p j.symm)]at e;obtain⟨q5,q6⟩:=h0 rfl i r e;refine⟨λv d=>?_,λ_ v d=>?_,λv d=>?_⟩
  ·rintro b o n c rfl rfl;obtain⟨C,f⟩:=H i r _ e d _ _ _ _ rfl;rw[t.1]at f;cases f
  ·rw[q5]at d;simp only[Option.some.injEq]at d;subst d;rintro b o n c j;cases j
  rw[q6]at d;simp only[Option.some.injEq]at d;subst d;rintro b o n c j;cases j
 obtain⟨z,n,c,⟨r,P,Q⟩,Y,J,I⟩:=W O;refine⟨z,n,c,⟨r,by rw[List.getElem?_set_ne L];exact P,Q⟩,Y,lM.le X J,λi r' e=>?_⟩;by_cases p:k=i
 ·subst p;rw[List.getElem?_set_self q]at e;simp only[Option.some.injEq]at e;subst e;obtain⟨aa,B⟩:=Di J;have V:∃ o,h z=some o:=by
   cases S:h z with
   | none=>simp[rd,S]at B
   | some o=>exact⟨o,rfl⟩
  obtain⟨ob,x⟩:=V;rw[s];refine⟨λv d=>?_,λ_ v d=>?_,λv d=>?_⟩
  ·simp only[List.getElem?_cons_succ,List.getElem?_cons_zero,Option.some.injEq]at d;subst d;exact(I k _ (List.getElem?_eq_getElem q)).1 _ (F _ (List.getElem?_eq_getElem q))
  ·simp only[List.getElem?_cons_succ,List.getElem?_cons_zero,Option.some.injEq]at d;subst d;rintro b o n c g rfl;simp only[Value.slice.injEq,Option.some.injEq,Addr.mk.injEq]at g;obtain⟨⟨rfl,_⟩,_⟩:=g;rw[t.1]at x;cases x
  simp only[List.getElem?_cons_succ,List.getElem?_cons_zero,Option.some.injEq]at d;subst d;rintro b o n c g rfl;simp only[Value.slice.injEq,Option.some.injEq,Addr.mk.injEq]at g;obtain⟨⟨rfl,_⟩,_⟩:=g;rw[t.2]at x;cases x
 rw[List.getElem?_set_ne p]at e;exact I i r' e
theorem lN.put {g0 g:Heap} {v:Option Addr} {q:Nat} {cs:List dH} {bm s:Nat} {recs:List (List Value)} {A:List cu} {k:Nat} (u:lN g0 g v q cs bm s recs A k) (z:k < A.length) {a:List Value} {p:cu} (c:lK (since g0 g) bm a p) (L:Ej (since g0 g) bm cs.length true a p) (M:An (since g0 g) bm (recs.set k a)) (P:p.cls≠0) :
  ∃ m:k < recs.length,∃ pre post t,g bm=some (.cells (pre++recs[k]++post).toArray t (0,0))/\pre.length=k*8/\a.length=8/\recs[k].length=8 /\
   ∃ P9 b,lN g0 (g.set bm (.cells (pre++a++post).toArray t (0,0))) v q cs bm s P9 b (k+1)/\b.length=A.length:=by
 obtain⟨m,_,Q,pre,post,t,y,T,Y⟩:=u.row.at z;obtain⟨I,_⟩:=u.fresh;obtain⟨b,m2,X,d,D,E,C,F⟩:=u.row.put z m y Y c;have N:g bm=some (.cells (pre++recs[k]++post).toArray t (0,0)):=(dK y).2;have R:a.length=8:=by obtain⟨_,_,_,_,_,_,_,_,e,_⟩:=c.Ck;rw[e];rfl
 have S:recs[k].length=8:=by obtain⟨_,_,_,_,_,_,_,_,e,_⟩:=Q.Ck;rw[e];rfl
 have o:since g0 (g.set bm (.cells (pre++a++post).toArray t (0,0)))=(since g0 g).set bm (.cells (pre++a++post).toArray t (0,0)):=fk I;refine⟨m,pre,post,t,N,T,R,S,recs.set k a,b,⟨?_,u.ok,by rw[o];exact X,by rw[d];exact u.num,λi J f=>?_,λ_=>?_,λab c=>?_⟩,d⟩
 ·rw[o,uY];exact u.cls
 ·have x:i < A.length:=by rw[<-d];exact f
  have K:i < recs.length:=by simpa using J
  by_cases e:i=k
  ·subst e;rw[E f];have:=C.mid F L;have h:decide (i < i+1)=true:=by simp
   rw[h];simp only[List.getElem_set_self];exact⟨this.head,this.hd,this.wh⟩
  obtain⟨W,G⟩:=D i x f e;have:=W.mid G (u.mid i K x);have h:decide (i < k+1)=decide (i < k):=by
   by_cases w:i < k
   ·simp[w];omega
   simp[w];omega
  rw[h,List.getElem_set_ne (λH=>e H.symm)];exact⟨this.head,this.hd,this.wh⟩
 ·rw[o];exact eg.Hq M λad V=>by simp[Heap.set,V]
 obtain⟨B,j,rfl⟩:=List.mem_iff_getElem.1 c;by_cases e:B=k
 ·subst e;rw[E j,C.cls];exact P
 rw[(D B (by rw[<-d];exact j) j e).1.cls];exact u.Q5 _ (List.getElem_mem _)
theorem vu {pre x y post:List Value} {n:Nat} (b:n=pre.length) (a:y.length=x.length):dU (pre++x++post) n y=pre++y++post:=by
 subst b;rw[List.append_assoc,fK y pre (x++post) (by simp;omega),a,List.drop_left]
theorem Hs {g G:Heap} {u:aS} {m c:cu} {a:Value} {f:List Value} {bm n:Nat} (made:Ai g G u m a f c) (y:oP (bh G bm) a m.args) (x:m.args.length<=100) (q:∃ o,g bm=some o) (p:eW n m):lK G bm f c/\Ej G bm n true f c:=by
 obtain⟨w,D,d,E,F,i,s,z⟩:=made.form.form;have t:d≠bm:=by
  rintro rfl;obtain⟨o,b⟩:=q;rw[s.2]at b;cases b
 have B:w≠bm:=by
  rintro rfl;obtain⟨o,b⟩:=q;rw[s.1]at b;cases b
 obtain⟨K,L,Q,N,j,i1,i2,i3,C,R,H,I,J⟩:=made.read;have e:=j;rw[i]at e;simp only[List.cons.injEq,and_true,true_and]at e;obtain⟨rfl,rfl,rfl,rfl⟩:=e;have v:=made.same;have A:0<=c.locals:=by have:=(made.same.KT p).2.2.2.2.2;omega
 refine⟨⟨a,_,_,_,j,i1,i2,i3,C,⟨by rw[v.2.2.1];exact y,by rw[v.2.2.1];exact x⟩,H,I,J,λP n M h=>.inr ?_⟩,⟨made.same.KT p,(λh=>nomatch h),λ_=>⟨made.ms.mi.len,made.ms.num,made.ms.val.VD A,a,w,D,d,E,F,i,⟨B,t⟩,z⟩⟩⟩;simp only[Value.slice.injEq]at h;exact⟨d,0,h.1.symm,t⟩
theorem Ht {g0 g:Heap} {b:Nat} {x y:dc} {t:TypeId} (f:g0 b=none) (e:g b=some (.cells (cJ x++cJ y).toArray t (0,0))) (c:cH x.kind/\cH x.a/\cH x.b) (d:cH y.kind/\cH y.a/\cH y.b):Row 3 xJ (since g0 g) (.slice (some ⟨b,0,none⟩) 2 2) [x,y]:=by
 have h:bW 3 (since g0 g) (.slice (some ⟨b,0,none⟩) 2 2) ([x,y].map cJ) [b]:=⟨λz a=>by obtain⟨w,_,rfl⟩:=List.mem_map.1 a;rfl,.inr ⟨b,2,[],t,rfl,Z,by rw[ef f];simpa using e,by simp[cJ],rfl⟩⟩
 refine h.yu Z λz a=>⟨rfl,?_⟩
 simp only[List.mem_cons,List.not_mem_nil,or_false]at a;rcases a with rfl|rfl
 ·exact c
 exact d
theorem lN.st {d g0 g:Heap} {j:Option Addr} {h:Nat} {cs:List dH} {bm i:Nat} {recs:List (List Value)} {A:List cu} {k off a:Nat} {vb:Value} {p q:Int} {K:Heap->Prop} {b:List Value} {f:cu} (u:lN g0 g j h cs bm i recs A k) (C:k < A.length) (m:lK (since g0 g) bm b f/\Ej (since g0 g) bm cs.length true b f) (y:An (since g0 g) bm (recs.set k b)) (z:f.cls≠0)
  (r:bz g a vb q) (J:bz d a vb p) (D:p<=q) (B:d bm=none) (G:d.le g) (N:off=0+k*8)
  (x:∀ c v e,d.le c->bz c a vb q->lN g0 c j h cs bm i v e (k+1)->e.length=A.length->K (cN c a vb q)):St (cN g a vb q) bm off b K:=by
 obtain⟨Q,pre,post,L,s,P,E,F,v,e,M,H⟩:=u.put C m.1 m.2 y z;have I:a≠bm:=λw=>by have:=r.free;rw[w,s]at this;cases this
 have t:=Heap.aR (o:=Obj.cells (pre++b++post).toArray L (0,0)) G B;exact gS r.free s (by simp only[List.length_append];omega) (vu O (by rw[E,F])) (x _ _ _ t (J.to t (by simp[Heap.set,I,r.free]) D) M H)
theorem sF.args {h:Heap} {b c:Nat} {recs:List (List Value)} {A:List cu} (r:sF h b c recs A):∀(i:Nat) (x:List Value) (v:Value),recs[i]? = some x->x[2]? = some v->∀ a o n c,v=.slice (some ⟨a,o,none⟩) n c->∃ p,h a=some p:=by
 rintro i x v j d a o n c rfl;obtain⟨f,rfl⟩:=List.getElem?_eq_some_iff.1 j;obtain⟨q,s,w,k,e,_,_,_,_,⟨⟨B,m⟩,_⟩,_⟩:=(r.each i f (by rw[<-r.len];exact f)).ex;rw[e]at d;simp only[List.getElem?_cons_succ,List.getElem?_cons_zero,Option.some.injEq]at d;subst d;rcases m with ⟨e,_⟩|⟨t,u,y,e,g,_⟩
 ·cases e
 simp only[Value.slice.injEq,Option.some.injEq,Addr.mk.injEq]at e;obtain⟨⟨rfl,_⟩,_⟩:=e;exact⟨_,eV _ _ _ _ g⟩
theorem lN.m6 {g0 g:Heap} {d:Option Addr} {b:Nat} {cs:List dH} {bm c:Nat} {recs:List (List Value)} {A:List cu} {k:Nat} (u:lN g0 g d b cs bm c recs A k):k=0->∀(i:Nat) (r:List Value),recs[i]? = some r->r[5]? = some (Value.slice none 0 0)/\r[6]? = some (Value.slice none 0 0):=by
 rintro rfl i r f;obtain⟨a,rfl⟩:=List.getElem?_eq_some_iff.1 f;obtain⟨h,e,_⟩:=(u.mid i a (by rw[<-u.row.len];exact a)).hd Z;rw[e];exact⟨rfl,rfl⟩
theorem wZ {g0 F:Heap} {j:Nat} {vb:Value} {p:Int} (r:bz F j vb p) (hp:p<=30000000) (h0:g0.le F) (hB:KV g0) :
  Dr prog 33 [.pointer (some ⟨j,0,none⟩)] F j vb p 9000 λg' v=>∃ m h cs bm B recs A,v=.agg #[.slice m cs.length h,.slice (some ⟨bm,0,none⟩) A.length B]/\lN g0 g' m h cs bm B recs A A.length/\F bm=none:=by
 refine bT aB func33 G33 U rfl ?_;conv=>whnf
 refine fq r (rj r O) (λv g1 q1 l1 r1 Vg Vh C=>?_);obtain⟨cs,ag,oc,KP,XH,ok⟩:=C;have K:=oc.form;obtain⟨m,h,rfl,KQ⟩:=K;conv=>whnf
 refine fq r1 (Ce m cs.length h r1 O ⟨ok.1,ok.2.1⟩) (λv g2 q2 l2 r2 Q3 Q4 C=>?_);obtain⟨bm,B,z,rfl,S,QG,QF,KX⟩:=C;have KO:=Heap.le_trans h0 l1;have h02:=Heap.le_trans KO l2;have hfm:g0 bm=none:=bq KO S.fr;have hrw:=S.row;obtain⟨recs,Qa,Qb,M0⟩:=hrw;have u2:lN g0 g2 m h cs bm B recs z 0:=by
  refine⟨Hp (oc.aJ oY λJ hb I R=>?_) ok,ok,⟨Qa.aJ (iD λJ hb=>by rw[List.mem_singleton.1 hb];exact hfm),Qb,λi M u=>?_⟩,⟨QG,QF⟩,λi M u=>?_,λt=>absurd t O,λae hm=>(KX ae hm).2⟩
  ·have pV:J≠bm:=by
    rintro rfl;rw[S.fr]at R;cases R
   unfold bh;rw[if_neg pV,ef (bq h0 (XH J hb))];exact l2 _ _ R
  ·obtain⟨E,ab,V,e1,e2,o⟩:=M0 i M u;have d:=(KX z[i] (List.getElem_mem u)).1;obtain⟨i1,i2,i3,i4⟩:=vq d ok.2.1;exact⟨E,_,_,_,ab,i1,i2,i3,i4,⟨V.since hB h02,by have:=d.2.1;omega⟩,by rw[e1];exact gD _,by rw[e2];exact gD _,by rw[o];exact gD _,λp n h t=>.inl (by simp only[Value.slice.injEq]at t;exact t.2.1.symm)⟩
  obtain⟨E,ab,V,e1,e2,o⟩:=M0 i M u;exact⟨(KX z[i] (List.getElem_mem u)).1,λ_=>⟨E,ab,e1,e2,o⟩,λt=>by simp at t⟩
 have VI:F bm=none:=bq l1 S.fr;have NJ:=Heap.le_trans l1 l2;clear S Qa Qb M0 KX oc KP XH KQ;conv=>whnf
 refine eu [0,2,3,4] [2,3] (λy:Nat × (Heap × Int) × List (List Value) × List cu=>y.1<=z.length/\y.2.2.2.length=z.length/\F.le y.2.1.1/\bz y.2.1.1 j vb y.2.1.2/\p<=y.2.1.2/\y.2.1.2<=p+300+2110*(y.1:Int)/\lN g0 y.2.1.1 m h cs bm B y.2.2.1 y.2.2.2 y.1) (λy=>z.length-y.1)
  (λy=>([.v (.pointer (some ⟨j,0,none⟩)),.l 2 0,.l 3 0,.v (.int .i64 y.1)],[some [.slice none 0 0,.slice none 0 0],some [.slice m cs.length h,.slice (some ⟨bm,0,none⟩) z.length B]],cN y.2.1.1 j vb y.2.1.2))
  (0,(g2,q2),recs,z) ⟨Nat.zero_le _,rfl,NJ,r2,by simp only;omega,by simp only;omega,u2⟩ rfl ?_
 clear u2 r2 NJ;rintro⟨i,⟨L,q3⟩,recs,A⟩ ⟨hi,C,l3,T,IL,oL,c⟩;simp only at hi C l3 T IL oL c ⊢;conv=>whnf
 apply aD<;>intro gi;all_goals conv=>whnf
 ·have Q:i < A.length:=by omega
  have K:=c.row.at Q;obtain⟨Nu,o,XI,_⟩:=K;have Q6:=c.mid i Nu Q;have J4:decide (i < i)=false:=by simp
  rw[J4]at Q6;have hh:=Q6.hd rfl;obtain⟨E,Y,VJ,Q7,s⟩:=hh;have d:=Q6.head;have P:=c.Q5 _ (List.getElem_mem Q);have XJ:=c.row.args;have XK:=c.m6;have XL:∀ r:List Value,recs[i]? = some r->r[2]? = some E:=λr b=>by
   rw[List.getElem?_eq_getElem Nu,Y]at b;simp only[Option.some.injEq]at b;rw[<-b];rfl
  have XN:=c.fst;rw[Y]at o;clear Q6;generalize A[i]=a at XI Y VJ Q7 s d o P;have hex:=XI.ex;obtain⟨a',_,_,_,Q8,i1,i2,i3,i4,⟨az,an⟩,_⟩:=hex;have haa:a'=E:=by
   rw[Y]at Q8;unfold dS at Q8;simp only[List.cons.injEq]at Q8;exact Q8.2.2.1.symm
  subst haa;have K:=az.form;obtain⟨e,ac,rfl⟩:=K;have h03:g0.le L:=Heap.le_trans h0 l3;have Q9:dQ (cN L j vb q3) bm (0+i*8) 8=some (dS a.cls a.er (.slice e a.args.length ac) a.out a.locals):=bG (aX T.free) (bG (aQ _ _) o);unfold dS at Q9;have XO:cR (since g0 L) (.slice e a.args.length ac) a.args:=(az.ints O).le (eV _ _);rw[<-C];refine ay ?_;conv=>whnf
  refine ptr ?_;conv=>whnf
  refine dh Q9 ?_;conv=>whnf
  refine fq T (Eh _ ⟨cs,A⟩ a (.slice e a.args.length ac) T O h03 c.Ek XO c.VH (by have:=c.num;show A.length<=100;omega) d VJ Q7 s) (λv g4 q4 w r4 Hf Hg hM=>?_);obtain⟨rec,m',rfl,made⟩:=hM;have u4:=c.aJ w;have hpn:=c.num;have XP:=Heap.le_trans l3 w;have Qc:=Heap.le_trans h0 XP;have Qd:∃ I,since g0 L bm=some I:=c.row.own.in bm Z;have XQ:=az.le (bV bm (bE g0 w));have FQ:=made.form.form;obtain⟨pc,kc,bs,ks,kv,rfl,WA,JD⟩:=FQ;have Qe:∃ p n aa,kv=Value.slice p n aa:=by
   rcases JD with ⟨rfl,_⟩|⟨bk,rfl,_⟩
   ·exact⟨_,_,_,rfl⟩
   exact⟨_,_,_,rfl⟩
  obtain⟨pk,nk,ck,rfl⟩:=Qe;conv=>whnf
  refine Jw r4 Qc (z7 _ _ ⟨cs,A⟩ m' (since g0 g4) u4.Ek made.read u4.VH made.ms) (λv G g r5 b=>?_);obtain⟨sl,rfl,_⟩:=b;have u5:=u4.aJ g;have VK:=Heap.le_trans XP g;have VL:=Heap.le_trans h0 VK;conv=>whnf
  cases uf:(iI ⟨cs,A⟩ m').2
  ·have VM:dQ (cN G j vb q4) bm (0+i*8) 8=some [.int .i64 a.cls,.int .i64 a.er,.slice e a.args.length ac,.int .i64 a.out,.int .i64 a.locals,.slice none 0 0,.slice none 0 0,.slice none 0 0]:=bG (aX r5.free) (bG (Heap.le_trans w g) (bG (aQ _ _) o));have Qf:cR (since g0 G) (.slice e a.args.length ac) a.args:=XO.le (bE g0 (Heap.le_trans w g));conv=>whnf
   refine ay ?_;conv=>whnf
   refine ptr ?_;conv=>whnf
   refine dh VM ?_;conv=>whnf
   refine fq r5 (vh _ a r5 O (wX d ok.2.1 (Qf.le (aQ _ _)) VJ Q7 s)) (λv g6 q6 H r6 VN VO f=>?_);refine f.elim λX f=>f.elim λx f=>f.elim λy f=>?_;have hv:=f.1;subst hv;have AK:=f.2.1;have e6:=f.2.2.1;have Ho:=f.2.2.2;have XT:=Heap.le_trans VK H;have h06:=Heap.le_trans h0 XT;have u6:=u5.aJ H;have Ia:ej ⟨cs,A⟩ {a with code:=[x,y]} x/\ej ⟨cs,A⟩ {a with code:=[x,y]} y:=by
    have u:=ok.1;rcases Ho with ⟨rfl,rfl⟩|⟨rfl,rfl|⟨af,rfl,w0,w1⟩⟩
    ·exact⟨(aL (p:=5) (q:=0) rfl).2 ⟨by unfold br;simp;omega,rfl⟩,(aL (p:=0) (q:=0) rfl).2 ⟨rfl,rfl⟩⟩
    ·exact⟨(aL (p:=0) (q:=0) rfl).2 ⟨rfl,rfl⟩,(aL (p:=0) (q:=0) rfl).2 ⟨rfl,rfl⟩⟩
    exact⟨(aL (p:=1) (q:=0) rfl).2 ⟨by unfold br;simp[eA];omega,rfl⟩,(aL (p:=0) (q:=0) rfl).2 ⟨rfl,rfl⟩⟩
   have we:=d.2.2.2.2.1;have bx:=rC Ia.1 ok (by show A.length<=100;omega) (by show a.locals<=1000;omega) Z;have by_:=rC Ia.2 ok (by show A.length<=100;omega) (by show a.locals<=1000;omega) Z;have mR:=Ht (bq VL AK) e6 (by unfold cH;omega) (by unfold cH;omega);have Qg:=Qf.le (bE g0 H);have MZ:dO (since g0 g6) [.int .i64 a.cls,.int .i64 a.er,.slice e a.args.length ac,.int .i64 a.out,.int .i64 a.locals,.slice (some ⟨X,0,none⟩) 2 2,.slice none 0 0,.slice none 0 0] {a with code:=[x,y]} :=
    ⟨_,_,_,_,rfl,i1,i2,i3,i4,Qg,mR,by rw[show({a with code:=[x,y]}:cu).aT=[]from Q7];exact gD _,by rw[show({a with code:=[x,y]}:cu).catches=[]from s];exact gD _⟩
   have N:MJ ⟨cs,A⟩ {a with code:=[x,y]}:=⟨d,Z,λV D=>by
    simp only[List.mem_cons,List.not_mem_nil,or_false]at D;rcases D with rfl|rfl
    ·exact Ia.1
    ·exact Ia.2,by
    refine⟨by rw[show({a with code:=[x,y]}:cu).catches=[]from s];simp,λV D=>?_⟩;rw[show({a with code:=[x,y]}:cu).catches=[]from s]at D;cases D⟩
   conv=>whnf
   refine Jw r6 h06 (nS _ ⟨cs,A⟩ {a with code:=[x,y]} (since g0 g6) e (some ⟨X,0,none⟩) none none a.args.length 2 0 0 ac 2 0 0 u6.Ek MZ u6.VH N) (λv g7 l7 r7 b=>?_);refine b.elim λb7 b=>b.elim λc7 b=>b.elim λW b=>?_;have hv:=b.1;subst hv;have aA:=b.2.1;have nA:=b.2.2.1;have vA:=b.2.2.2;have lg7:=Heap.le_trans XT l7;have ls:=bE g0 l7;have u7:=u6.aJ l7;have hnA:W.length=2:=by rw[nA];rfl
   have VP:since g0 G X=none:=mM AK;have KY:Ai (since g0 G) (since g0 g7) ⟨cs,A⟩ a (.slice e a.args.length ac) [.int .i64 a.cls,.int .i64 a.er,.slice e a.args.length ac,.int .i64 a.out,.int .i64 a.locals,.slice (some ⟨X,0,none⟩) 2 2,.slice (some ⟨b7,0,none⟩) W.length c7,.slice none 0 0] {a with code:=[x,y],aT:=W} :=
    ⟨⟨rfl,rfl,rfl,rfl,rfl⟩,⟨_,_,_,_,rfl,i1,i2,i3,i4,Qg.le ls,mR.le ls (λ_ _ hx=>hx),aA.uZ O,by rw[show({a with code:=[x,y],aT:=W}:cu).catches=[]from s];exact gD _⟩,⟨⟨N.head,N.len,N.code,N.cat⟩,nA,vA⟩,⟨_,_,_,_,_,rfl,⟨VP,bq (bE g0 H) aA.fr⟩,.inl ⟨rfl,s⟩⟩,⟨[x],y,rfl,λV D=>by
     rw[List.mem_singleton.1 D];rcases Ho with ⟨_,rfl⟩|⟨_,rfl|⟨af,rfl,_⟩⟩<;>simp,by rcases Ho with ⟨rfl,_⟩|⟨rfl,_⟩<;>simp⟩⟩
   have El:∃ I,since g0 G bm=some I:=u5.row.own.in bm Z;have hN:=Hr (k:=i) (recs:=recs) (Heap.le_trans (bE g0 H) ls) KY El Nu XL (λad r v M u J I n aa h3=>by
    obtain⟨o',R⟩:=XJ ad r v M u J I n aa h3;exact⟨o',bE g0 (Heap.le_trans w g) _ _ R⟩) XK (λt=>eg.le (bE g0 (Heap.le_trans w g)) (XN t))
   have hF:=Hs (n:=cs.length) KY (((XQ.le (bV bm (bE g0 g))).le (bV bm (bE g0 H))).le (bV bm ls)) (by have:=d.2.1;omega) El d;conv=>whnf
   refine ay ?_;conv=>whnf
   refine ptr ?_;conv=>whnf
   refine u7.st Q hF hN P r7 r O VI lg7 rfl (λg9 Hu A9 VQ r9 u9 n9=>?_);conv=>whnf
   refine av ?_;conv=>whnf
   exact cT (i+1,(g9,_),Hu,A9) ⟨by simp only;omega,by simp only;omega,VQ,r9,by simp only;omega,by simp only;omega,u9⟩ (by simp only;omega) rfl
  have KZ:Ai (since g0 L) (since g0 G) ⟨cs,A⟩ a (.slice e a.args.length ac) _ m':=⟨made.same,made.read.le (bE g0 g),made.ms,made.form,made.kd⟩
  have P:m'.cls≠0:=by rw[made.same.1];exact P
  have hN:=Hr (k:=i) (recs:=recs) (bE g0 (Heap.le_trans w g)) KZ Qd Nu XL XJ XK XN;have hF:=Hs (n:=cs.length) KZ (XQ.le (bV bm (bE g0 g))) (by have:=d.2.1;omega) Qd d;conv=>whnf
  refine ay ?_;conv=>whnf
  refine ptr ?_;conv=>whnf
  refine u5.st Q hF hN P r5 r O VI VK rfl (λg9 Hu A9 VQ r9 u9 n9=>?_);conv=>whnf
  refine av ?_;conv=>whnf
  exact cT (i+1,(g9,_),Hu,A9) ⟨by simp only;omega,by simp only;omega,VQ,r9,by simp only;omega,by simp only;omega,u9⟩ (by simp only;omega) rfl
 have hik:i=A.length:=by omega
 have hpn:=c.num;rw[<-C];exact⟨_,_,rfl,l3,T.free,O,O,m,h,cs,bm,B,recs,A,rfl,by rw[<-hik];exact c,VI⟩
def XU (P:Program) (f:FuncId) (args:List Value) (g0 g:Heap) (b:Nat) (vb:Value) (p k:Int) (A:Heap->Value->Prop):Prop :=
 bI P f args (cN g b vb p) λv c=>∃ a q,c=cN a b vb q/\g0.le a/\a b=none/\p<=q/\q<=p+k/\A a v
theorem K0 {P:Program} {f:FuncId} {args:List Value} {g0 g:Heap} {b:Nat} {vb:Value} {d p k:Int} {A:Heap->Value->Prop} {K:Value->Heap->Prop} {E:List PanicEntry->Heap->Prop} (t:bz g0 b vb d) (w:d<=p) (m:XU P f args g0 g b vb p k A)
  (s:∀ v a q,g0.le a->bz a b vb q->p<=q->q<=p+k->A a v->K v (cN a b vb q)):Go.Vc.Call P f args (cN g b vb p) K E :=
 aG m λv u o=>by
  obtain⟨a,q,rfl,c,j,e,h,i⟩:=o;exact s v a q c (t.to c j O) e h i
theorem kL {g:Heap} {b:Nat} {cs:Array Value} {t:TypeId} {z:Nat × Nat} (e:g b=some (.cells cs t z)):∀ {n off:Nat} {vs:List Value},0 < n->dQ g b off n=some vs->∃ pre post,cs.toList=pre++vs++post/\pre.length=off:=by
 intro n off vs m a;have j:=xI a;have hle:off+n<=cs.toList.length:=by
  have f:∃ v,vs[n-1]? = some v:=⟨vs[n-1]'O,List.getElem?_eq_getElem O⟩
  obtain⟨v,i⟩:=f;have c:=aM a i;simp only[rd,e]at c;have:=(Array.getElem?_eq_some_iff.1 c).1;simp;omega
 have h:g b=some (.cells cs.toList.toArray t z):=by simpa using e
 have d:=bK h n off hle;rw[a]at d;refine⟨cs.toList.take off,cs.toList.drop (off+n),?_,by rw[List.length_take];omega⟩;rw[Option.some.inj d,List.append_assoc];have:(cs.toList.drop off).take n++cs.toList.drop (off+n)=cs.toList.drop off:=by
  rw[<-List.drop_drop,List.take_append_drop]
 rw[this,List.take_append_drop]
theorem lO {j:Type} {sz:Nat} {R:Heap->List Value->j->Prop} {g0 g:Heap} {p:Option Addr} {n c:Nat} {l:List j} (y:Row sz R (since g0 g) (.slice p n c) l) (D:Jx (since g0 g)) (h:0 < sz) {i:Nat} (u:i < l.length) :
  ∃ b off vs pre post t,p=some ⟨b,off,none⟩/\g0 b=none/\g b=some (.cells (pre++vs++post).toArray t (0,0))/\(since g0 g) b=some (.cells (pre++vs++post).toArray t (0,0))/\pre.length=off+i*sz/\dQ (since g0 g) b (off+i*sz) sz=some vs/\R (since g0 g) vs l[i]:=by
 obtain⟨b,off,vs,x,e,q⟩:=y.get u;have s:∃ d t z,since g0 g b=some (.cells d t z):=by
  obtain⟨v,A⟩:∃ v,vs[0]? = some v:=⟨vs[0]'(by rw[xI e];exact h),List.getElem?_eq_getElem _⟩
  have f:=aM e A;unfold rd at f;split at f
  ·rename_i d t z B;exact⟨d,t,z,B⟩
  cases f
 obtain⟨d,t,z,a⟩:=s;have C:=D _ _ _ _ a;subst C;obtain⟨pre,post,m,w⟩:=kL a h e;have o:d=(pre++vs++post).toArray:=by rw[<-m]
 rw[o]at a;exact⟨b,off,vs,pre,post,t,x,(dK a).1,(dK a).2,a,w,e,q⟩
structure tF (g g':Heap) (bm:Nat):Prop where
 int:tD g g'
 bool:∀ b off x,b≠bm->rd g b off=some (.bool x)->∃ x',rd g' b off=some (.bool x')
 row:∀ b off v l,b≠bm->rd g b off=some v->cR g v l->∃ v' l',rd g' b off=some v'/\cR g' v' l'
theorem s7.yH {g d:Heap} (a:s7 g d) (bm:Nat):tF g d bm:=⟨a.int,λb c x _ h=>a.bool b c x h,λb c v l _ h i=>a.row b c v l h i⟩
theorem tF.trans {g j m:Heap} {bm:Nat} (a:tF g j bm) (c:tF j m bm):tF g m bm where
 int:=λb d x h i=>by
  obtain⟨y,e,i1⟩:=a.int b d x h i;exact c.int b d y e i1
 bool:=λb d x f h=>by
  obtain⟨y,e⟩:=a.bool b d x f h;exact c.bool b d y f e
 row:=λb d v l f h i=>by
  obtain⟨p,o,e,i1⟩:=a.row b d v l f h i;exact c.row b d p o f e i1
theorem yy {g:Heap} {b:Nat} {pre post d e:List Value} {t:TypeId} (m:g b=some (.cells (pre++d++post).toArray t (0,0))) (i:Am d) (j:Am e):tF g (g.set b (.cells (pre++e++post).toArray t (0,0))) b:=by
 have c:=rD m i j;refine⟨c,λf s x a h=>⟨x,by rw[kq a];exact h⟩,λf s v l a h o=>?_⟩;obtain⟨q,p,_⟩:=eP c o;exact⟨v,q,by rw[kq a];exact h,p⟩
structure lP (h:Heap) (bm:Nat) (rec:List Value) (m:cu):Prop where
 read:dO h rec m
 at_:∀ x1 x2 a x3 x4 c p n cc k,rec=[.int .i64 x1,.int .i64 x2,a,.int .i64 x3,.int .i64 x4,c,.slice p n cc,k]->n=0\/∃ bs off,p=some ⟨bs,off,none⟩/\bs≠bm
theorem Hv {t b:Heap} {bm:Nat} (a:tF t b bm) {p:Option Addr} {n c:Nat} {l:List dF} (B:Row 3 jJ t (.slice p n c) l) (h:n=0\/∃ d off,p=some ⟨d,off,none⟩/\d≠bm):∃ o,Row 3 jJ b (.slice p n c) o:=by
 obtain⟨u,N,J,e,v,g⟩:=B;simp only[Value.slice.injEq]at e;obtain⟨rfl,rfl,rfl⟩:=e;rcases g with rfl|⟨s,off,rfl,C⟩
 ·exact⟨[],Z,p,c,rfl,Z,.inl rfl⟩
 rcases h with h|⟨d,M,e,j⟩
 ·have:l=[]:=List.eq_nil_of_length_eq_zero h;subst this;exact⟨[],Z,_,c,rfl,Z,.inl rfl⟩
 simp only[Option.some.injEq,Addr.mk.injEq,and_true]at e;obtain⟨rfl,rfl⟩:=e;obtain⟨o,z,A⟩:=gT (Q:=λi (H:dF)=>∃ q,dQ b s (off+i*3) 3=some q/\jJ b q H) l.length (λi y=>by
  obtain⟨q,f,K,L,rfl,i1,i2⟩:=C i l[i] (by simp[y]);obtain⟨u,m⟩:=cV f;obtain⟨v,m⟩:=cV m;obtain⟨g,_⟩:=cV m;obtain⟨I,f⟩:=a.bool _ _ _ j u;obtain⟨P,F,w,D⟩:=a.row _ _ _ _ j v i1;obtain⟨R,G,x,E⟩:=a.row _ _ _ _ j g i2;exact⟨⟨I,F,G⟩,_,dB f (dB w (jy x)),_,_,rfl,D,E⟩)
 exact⟨o,O,_,c,by rw[z],O,.inr ⟨s,off,rfl,A⟩⟩
theorem lP.NO {g b:Heap} {bm:Nat} {f:List Value} {m:cu} (d:lP g bm f m) (a:tF g b bm):∃ w,dO b f w:=by
 obtain⟨h,i,F,k,e,i1,i2,i3,q,j,o,c,p⟩:=d.read;obtain⟨s,x,_⟩:=eP a.int j;obtain⟨t,y,C⟩:=fZ (tO a.int) o;obtain⟨v,A,D⟩:=fZ (tP a.int) p;obtain⟨E,B,rfl,_,_⟩:=c.len;obtain⟨u,z⟩:=Hv a c (d.at_ _ _ _ _ _ _ _ _ _ _ e);exact⟨⟨m.cls,m.er,s,m.out,m.locals,t,u,v⟩,⟨h,i,_,k,e,i1,i2,i3,q,x,y,z,A⟩⟩
theorem lK.yH {h:Heap} {b:Nat} {d:List Value} {m:cu} (c:lK h b d m):lP h b d m:=by
 refine⟨c.VE,λu v i w x o p n e k f=>?_⟩;obtain⟨j,q,t,s,a,_,_,_,_,_,_,_,_,g⟩:=c.ex;rw[f]at a;simp only[List.cons.injEq,and_true]at a;exact g p n e a.2.2.2.2.2.2.1.symm
theorem Ao {g d:Heap} {bm:Nat} (a:tF g d bm) {v:Value} {l:List dH} (y:eD (bh g bm) v l):∃ c,eD d v c:=by
 obtain⟨e,D,m,rfl,h,t⟩:=y;rcases t with rfl|⟨b,q,rfl,A⟩
 ·exact⟨[],Z,D,m,rfl,Z,.inl rfl⟩
 obtain⟨c,w,x⟩:=gT (Q:=λi (F:dH)=>∃ j,dQ d b (q+i*2) 2=some j/\vQ d j F) l.length (λi u=>by
  obtain⟨j,f,H,rfl,i1,i2⟩:=A i l[i] (by simp[u]);obtain⟨e,z⟩:=cV f;obtain⟨h,_⟩:=cV z;have p:b≠bm:=by
   rintro rfl;simp[rd,bh]at e
  have E:∀ o,rd (bh g bm) b o=rd g b o:=λo=>by unfold rd bh;rw[if_neg p]
  rw[E]at e h;obtain⟨G,f,B⟩:=a.int _ _ _ e i1;obtain⟨I,c,s,C⟩:=a.row _ _ _ _ p h (i2.le (eV _ _));exact⟨⟨G,c⟩,_,dB f (jy s),_,rfl,B,C⟩)
 exact⟨c,O,_,m,by rw[w],O,.inr ⟨b,q,rfl,x⟩⟩
theorem lN.end {g0 h c:Heap} {s:Option Addr} {p:Nat} {cs:List dH} {bm q:Nat} {recs:List (List Value)} {A:List cu} {k:Nat} (u:lN g0 h s p cs bm q recs A k) (a:tF (since g0 h) (since g0 c) bm) (L:c bm=h bm) {i:Nat} (P:i < A.length) {b:List Value} {X:cu} (S:lP (since g0 c) bm b X) (x:Am b) :
  ∃ D:i < recs.length,∃ pre post t,c bm=some (.cells (pre++recs[i]++post).toArray t (0,0))/\pre.length=i*8/\b.length=8/\recs[i].length=8 /\
   (∀ d,d=c.set bm (.cells (pre++b++post).toArray t (0,0))->(∃ f,Row 8 dO (since g0 d) (.slice (some ⟨bm,0,none⟩) A.length q) f)/\(∃ V,eD (since g0 d) (.slice s cs.length p) V)):=by
 obtain⟨D,_,z,pre,post,t,K,T,Y⟩:=u.row.at P;obtain⟨v,_⟩:=u.fresh;have M:h bm=some (.cells (pre++recs[i]++post).toArray t (0,0)):=(dK K).2;have y:c bm=some (.cells (pre++recs[i]++post).toArray t (0,0)):=by rw[L];exact M
 have N:since g0 c bm=some (.cells (pre++recs[i]++post).toArray t (0,0)):=by rw[ef v];exact y
 have C:b.length=8:=by obtain⟨_,_,_,_,_,_,_,_,e,_⟩:=x;rw[e];rfl
 have R:recs[i].length=8:=by obtain⟨_,_,_,_,_,_,_,_,e,_⟩:=z.Ck;rw[e];rfl
 refine⟨D,pre,post,t,y,T,C,R,λd G=>?_⟩;have E:since g0 d=(since g0 c).set bm (.cells (pre++b++post).toArray t (0,0)):=by rw[G];exact fk v
 have g:=yy N z.Ck x;rw[<-E]at g;have own:=Y b (since g0 d) C (by rw[E];exact cB _ _ _);obtain⟨f,I,J⟩:=gT (Q:=λj (W:cu)=>∀ w:j < (recs.set i b).length,dO (since g0 d) (recs.set i b)[j] W) A.length (λj B=>by
  by_cases e:j=i
  ·subst e;obtain⟨m,o⟩:=S.NO g;exact⟨m,λ_=>by simpa using o⟩
  obtain⟨m,o⟩:=(u.row.each j (by rw[u.row.len];exact B) B).yH.NO (a.trans g);exact⟨m,λ_=>by rw[List.getElem_set_ne (λF=>e F.symm)];exact o⟩)
 exact⟨⟨f,own.MX (by rw[List.length_set,u.row.len,I]) (by have:=u.num;omega) λj w H=>J j f[j] (by simp[H]) w⟩,Ao (a.trans g) u.cls⟩
theorem Hw (x:Int):cH (IntKind.i64.wrap x):=by
 unfold cH;simp[IntKind.wrap,IntKind.bits,IntKind.signed];omega
theorem JE {G:Heap} {b:Nat} {pre x post:List Value} {t:TypeId} {i:Nat} {z y:Int} (d:G b=some (.cells (pre++x++post).toArray t (0,0))) (c:x[i]? = some (.int .i64 z)) (f:cH y):s7 G (G.set b (.cells (pre++x.set i (.int .i64 y)++post).toArray t (0,0))):=by
 have a:=s9 (cs:=pre++x++post) (off:=pre.length+i) d (CI c) f;have e:(pre++x++post).set (pre.length+i) (.int .i64 y)=pre++x.set i (.int .i64 y)++post:=by
  rw[List.append_assoc,List.set_append,if_neg O,Nat.add_sub_cancel_left,List.set_append,if_pos (List.getElem?_eq_some_iff.1 c).1,List.append_assoc]
 rw[e]at a;exact a
theorem lP.Hx {g c:Heap} {bm:Nat} {e:List Value} {m:cu} (d:lP g bm e m) (a:s7 g c):∃ b,lP c bm e b:=by
 obtain⟨b,h,_⟩:=Jv a d.read;exact⟨b,h,d.at_⟩
theorem Em {G:Heap} {bm b off n d:Nat} {f g h i:Int} {a c k:Value} {m:cu} (o:dO G [.int .i64 f,.int .i64 g,a,.int .i64 h,.int .i64 i,c,.slice (some ⟨b,off,none⟩) n d,k] m) (j:b≠bm):lP G bm [.int .i64 f,.int .i64 g,a,.int .i64 h,.int .i64 i,c,.slice (some ⟨b,off,none⟩) n d,k] m:=by
 refine⟨o,λw x p y z q v u s t e=>.inr ?_⟩;simp only[List.cons.injEq,Value.slice.injEq,and_true]at e;exact⟨b,off,e.2.2.2.2.2.2.1.1.symm,j⟩
theorem gE {a b c d:Int} {s t u v:Option Addr} {m o p q e f g i:Nat} (i1:cH a) (i2:cH b) (i3:cH c) (j:cH d):Am [.int .i64 a,.int .i64 b,.slice s m e,.int .i64 c,.int .i64 d,.slice t o f,.slice u p g,.slice v q i] :=
 ⟨_,_,_,_,_,_,_,_,rfl,i1,i2,i3,j,(λx h=>nomatch h),(λx h=>nomatch h),(λx h=>nomatch h),(λx h=>nomatch h)⟩
def Kh (l:List dc):Prop:=∃ a y,l=a++[y]/\(y.kind=20\/y.kind=21->y.a=0/\y.b=0/\∀ x∈a,x.kind≠22)
def vw (A:List cu):Prop:=∀ m,A[0]? = some m->∃ a y,m.code=a++[y]/\(y.kind=20\/y.kind=21->y.a=0/\y.b=0/\(∀ x∈a,x.kind≠22)/\∀ n∈A,n.cls≠0)
def K1 (h:Heap) (bm:Nat) (recs:List (List Value)) (i:Nat) (a:List Value):Prop:=(∃ r,recs[i]? = some r/\a[5]? = r[5]?/\(eg Kd h bm recs\/eg Kh h bm recs/\a=r))
theorem Ap {x y:dc} (h:cJ x=cJ y):x=y:=by
 obtain⟨a,c,e⟩:=x;obtain⟨b,d,f⟩:=y;unfold cJ at h;simp only[List.cons.injEq,Value.int.injEq,true_and,and_true]at h;rw[h.1,h.2.1,h.2.2]
theorem Dj {h:Heap} {ok:List dc->Prop} {b n c:Nat} {l:List dc} (j:lM ok h b n) (f:Row 3 xJ h (.slice (some ⟨b,0,none⟩) n c) l):ok l:=by
 obtain⟨q,t,k,m⟩:=j;have u:l.length=n:=by
  obtain⟨_,_,d,_⟩:=f.len;simp only[Value.slice.injEq]at d;exact d.2.1.symm
 have:l=q:=List.ext_getElem O λp g i=>by
  obtain⟨s,v,w,e,a,o,_⟩:=f.get g;simp only[Option.some.injEq,Addr.mk.injEq,and_true]at e;obtain⟨rfl,rfl⟩:=e;rw[m p i]at a;simp only[Option.some.injEq]at a;rw[o]at a;exact Ap a.symm
 rw[this];exact k
theorem yz {pre x post:List Value} {h:Heap} {b:Nat} {t:TypeId} (a:h b=some (.cells (pre++x++post).toArray t (0,0))):dQ h b pre.length x.length=some x:=by
 rw[bK a _ _ (by simp only[List.length_append];omega),List.append_assoc,List.drop_left,List.take_left]
theorem Dk {h h':Heap} {b:Nat}:∀ {n off:Nat},(∀ k,k < n->rd h' b (off+k)=rd h b (off+k))->dQ h' b off n=dQ h b off n
 | 0,_,_=>rfl
 | n+1,off,hk=>by
  have a:=hk 0 O;have c:dQ h' b (off+1) n=dQ h b (off+1) n:=Dk λk d=>by
   have:=hk (k+1) O;rw[show off+(k+1)=off+1+k by omega]at this;exact this
  simp only[Nat.add_zero]at a;simp only[dQ,a,c]
theorem xd {h h':Heap} {b i j sz:Nat} {pre x x' post:List Value} {t g:TypeId} (a:h b=some (.cells (pre++x++post).toArray t (0,0))) (c:h' b=some (.cells (pre++x'++post).toArray g (0,0))) (e:x.length=sz) (f:x'.length=sz) (p:pre.length=i*sz) (m:j≠i):dQ h' b (0+j*sz) sz=dQ h b (0+j*sz) sz:=by
 refine Dk λk o=>?_;simp only[rd,a,c,List.getElem?_toArray];by_cases d:j < i
 ·have:(j+1)*sz<=i*sz:=Nat.mul_le_mul_right _ d;rw[Nat.succ_mul]at this;rw[List.append_assoc,List.append_assoc,List.getElem?_append_left O,List.getElem?_append_left O]
 have:(i+1)*sz<=j*sz:=Nat.mul_le_mul_right _ O;rw[Nat.succ_mul]at this;rw[List.getElem?_append_right (by simp;omega),List.getElem?_append_right (by simp;omega)];simp[e,f]
theorem M1 {g0 G:Heap} {V:Option Addr} {T:Nat} {cs:List dH} {bm C:Nat} {recs:List (List Value)} {A c:List cu} {k i:Nat} {b:List Value} {q d:Heap} {pre post:List Value} {t t':TypeId} (u:lN g0 G V T cs bm C recs A k) (hW:K1 q bm recs i b) (hi:i < A.length) (ho:∀ x,x≠bm->d x=q x)
  (I:d bm=some (.cells (pre++b++post).toArray t' (0,0))) (hr:i < recs.length) (X:since g0 G bm=some (.cells (pre++recs[i]++post).toArray t (0,0))) (L:pre.length=i*8) (J:b.length=8) (Y:recs[i].length=8) (K:Row 8 dO d (.slice (some ⟨bm,0,none⟩) A.length C) c):vw c:=by
 obtain⟨r,N,hr5,uf⟩:=hW;have P:recs[i]=r:=by rw[List.getElem?_eq_getElem hr]at N;simpa using N
 have hAl:c.length=A.length:=by
  obtain⟨_,_,F,_⟩:=K.len;simp only[Value.slice.injEq]at F;exact F.2.1.symm
 have rd2:∀ j (a:j < recs.length),dQ d bm (0+j*8) 8=some (if j=i then b else recs[j]):=λj a=>by
  by_cases e:j=i
  ·subst e;rw[if_pos rfl,Nat.zero_add,<-L];have:=yz I;rw[J]at this;exact this
  rw[if_neg e,xd X I Y J L e];exact(u.row.at (by rw[<-u.row.len];exact a)).choose_spec.1
 have get:∀ j (a:j < c.length) (h:j < recs.length),dO d (if j=i then b else recs[j]) c[j]:=λj a h=>by
  obtain⟨ab,off,vs,M,y,w⟩:=K.get a;simp only[Option.some.injEq,Addr.mk.injEq,and_true]at M;obtain⟨rfl,rfl⟩:=M;rw[rd2 j h]at y;simp only[Option.some.injEq]at y;rw[y];exact w
 intro ad w;obtain⟨W,rfl⟩:=List.getElem?_eq_some_iff.1 w;have H:0 < recs.length:=by rw[u.row.len];omega
 have D:∀ ok,eg ok q bm recs->ok c[0].code:=λok g=>by
  obtain⟨s,n,R,⟨r0,E,f⟩,pV,hc,_⟩:=g;have H7:lM ok d s n:=lM.Hq (ho s pV) hc;have p:=get 0 W H;have v:(if 0=i then b else recs[0])[5]? = some (.slice (some ⟨s,0,none⟩) n R):=by
   have m:recs[0]=r0:=by rw[List.getElem?_eq_getElem H]at E;simpa using E
   by_cases e:0=i
   ·rw[if_pos e,hr5,<-P];subst e;rw[m];exact f
   rw[if_neg e,m];exact f
  obtain⟨Q,S,aa,k',e,_,_,_,_,_,w2,_⟩:=p;rw[e]at v;simp only[List.getElem?_cons_succ,List.getElem?_cons_zero,Option.some.injEq]at v;subst v;exact Dj H7 w2
 rcases uf with g|⟨g,rfl⟩
 ·obtain⟨z,B,e,_,k,_⟩:=D _ g;exact⟨z,B,e,λo=>O⟩
 obtain⟨z,B,e,k⟩:=D _ g;refine⟨z,B,e,λo=>⟨(k o).1,(k o).2.1,(k o).2.2,λn hn=>?_⟩⟩;obtain⟨j,a,rfl⟩:=List.mem_iff_getElem.1 hn;have h:j < recs.length:=by rw[u.row.len];omega
 have p:=get j a h;have m:(if j=i then b else recs[j])=recs[j]:=by
  by_cases e:j=i
  ·subst e;rw[if_pos rfl,P]
  rw[if_neg e]
 rw[m]at p;obtain⟨Q,S,aa,k',e,_⟩:=p;obtain⟨a2,c2,s2,k2,f,_⟩:=(u.row.each j h O).ex;rw[e]at f;simp only[List.cons.injEq,Value.int.injEq,true_and]at f;rw[f.1];exact u.Q5 _ (List.getElem_mem _)
theorem eg.other {ok:List dc->Prop} {h h':Heap} {bm i b:Nat} {recs:List (List Value)} {r:List Value} (f:eg ok h bm recs) (u:recs[i]? = some r) (o:∀ a,P8 i a r->b≠a) (t:∀ x,x≠b->h x≠none->h' x=h x):eg ok h' bm recs:=by
 obtain⟨a,n,j,e,s,d,c⟩:=f;refine⟨a,n,j,e,s,?_,c⟩;have q:=o a (c i r u);by_cases g:h a=none
 ·obtain⟨w,m,k,v⟩:=d;refine⟨w,m,k,λi p=>?_⟩;have:=v i p;simp[dQ,rd,g]at this
 exact lM.Hq (t a (λe=>q e.symm) g) d
theorem En {h:Heap} {bm b n c a j:Nat} {recs:List (List Value)} {r pre post:List Value} {x:dc} {t:TypeId} (f:eg Kd h bm recs) (D:recs[0]? = some r) (v:r[5]? = some (.slice (some ⟨b,0,none⟩) n c)) (z:h b=some (.cells (pre++cJ x++post).toArray t (0,0))) (C:pre.length=0+a*3) (V:a < n) (W:j < 3) (y:Int) :
  eg Kh (h.set b (.cells (pre++(cJ x).set j (.int .i64 y)++post).toArray t (0,0))) bm recs:=by
 obtain⟨S,n',T,⟨r',p,q⟩,L,⟨s,H,R,E⟩,K⟩:=f;rw[D]at p;simp only[Option.some.injEq]at p;subst p;rw[v]at q;simp only[Option.some.injEq,Value.slice.injEq,Addr.mk.injEq,and_true]at q;obtain⟨rfl,rfl,rfl⟩:=q;have w:a < s.length:=by omega
 have M:s[a]=x:=by
  have J:=E a w;have g:=yz z;rw[C]at g;have G:(cJ x).length=3:=rfl;rw[G,J]at g;simp only[Option.some.injEq]at g;exact Ap g
 have N:∃ d:dc,cJ d=(cJ x).set j (.int .i64 y)/\(j=0->d.a=x.a/\d.b=x.b)/\(j≠0->d.kind=x.kind):=by
  have:j=0\/j=1\/j=2:=by omega
  rcases this with rfl|rfl|rfl
  ·exact⟨⟨y,x.a,x.b⟩,rfl,(λ_=>⟨rfl,rfl⟩),(λh=>absurd rfl h)⟩
  ·exact⟨⟨x.kind,y,x.b⟩,rfl,(λh=>absurd h O),(λ_=>rfl)⟩
  exact⟨⟨x.kind,x.a,y⟩,rfl,(λh=>absurd h O),(λ_=>rfl)⟩
 obtain⟨d,I,P,Q⟩:=N;refine⟨b,n,c,⟨r,D,v⟩,L,⟨s.set a d,by rw[List.length_set];exact H,?_,λi m=>?_⟩,K⟩
 ·obtain⟨o,F,rfl,m,X,Y⟩:=R;by_cases B:a < o.length
  ·refine⟨o.set a d,F,by rw[List.set_append,if_pos B],λh=>O⟩
  have e:a=o.length:=by simp at w;omega
  have u:x=F:=by rw[<-M];simp[e]
  refine⟨o,d,by rw[List.set_append,if_neg B];simp[e],λh=>?_⟩;by_cases A:j=0
  ·have:=P A;rw[u]at this;exact⟨O,O,m⟩
  have:=Q A;rw[u]at this;omega
 rw[List.length_set]at m;by_cases e:i=a
 ·subst e;simp only[List.getElem_set_self];rw[<-C,I];have:=yz (cB h b (.cells (pre++(cJ x).set j (.int .i64 y)++post).toArray t (0,0)));rw[List.length_set]at this;exact this
 rw[List.getElem_set_ne (λh=>e h.symm)];rw[xd (sz:=3) (i:=a) z (cB h b _) rfl (by rw[List.length_set];rfl) O e];exact E i m
section
variable {g0 g g1:Heap} {cp:Option Addr} {cc:Nat} {cs:List dH} {bm cm:Nat} {recs:List (List Value)} {A:List cu} {k bb:Nat} {vb:Value} {q0 q:Int} {K:Heap->Prop}
theorem lN.mT {i off:Nat} {c:List Value} {I:cu} (u:lN g0 g cp cc cs bm cm recs A k) (a:tF (since g0 g) (since g0 g1) bm) (m:g1 bm=g bm) (p:i < A.length) (E:lP (since g0 g1) bm c I) (B:Am c) (r:bz g1 bb vb q) (L:bz g0 bb vb q0) (G:q0<=q) (y:g0.le g1) (N:off=0+i*8) (C:K1 (since g0 g1) bm recs i c)
  (z:∀ b d h,g0.le b->bz b bb vb q->Row 8 dO (since g0 b) (.slice (some ⟨bm,0,none⟩) A.length cm) d->eD (since g0 b) (.slice cp cs.length cc) h->(∀ x,x≠bm->b x=g1 x)->vw d->K (cN b bb vb q)):St (cN g1 bb vb q) bm off c K:=by
 obtain⟨H,pre,post,M,e,F,s,t,fin⟩:=u.end a m p E B;have J:bb≠bm:=λw=>by have:=r.free;rw[w,e]at this;cases this
 have v:=Heap.aR (o:=Obj.cells (pre++c++post).toArray M (0,0)) y u.fresh.1;obtain⟨⟨d,j⟩,h,D⟩:=fin _ rfl;exact gS r.free e (by simp only[List.length_append];omega) (vu O (by rw[s,t])) (z _ d h v (L.to v (by simp[Heap.set,J,r.free]) G) j D (λx f=>by simp[Heap.set,f]) (M1 u C p (λx f=>by rw[fk u.fresh.1];simp[Heap.set,f]) (by rw[fk u.fresh.1];exact cB _ _ _) H (by rw[ef u.fresh.1,<-m];exact e) F s t j))
theorem lN.VR {b off i:Nat} {pre x post:List Value} {t:TypeId} {y z:Int} (h0:g0.le g) (r:bz g bb vb q) (B:bz g0 bb vb q0) (u:q0<=q) (c:since g0 g b=some (.cells (pre++x++post).toArray t (0,0))) (f:b≠bm) (s:off=pre.length+i) (h:x[i]? = some (.int .i64 z)) (v:cH y)
  (m:∀ g1,g0.le g1->bz g1 bb vb q->s7 (since g0 g) (since g0 g1)->g1 bm=g bm->since g0 g1=(since g0 g).set b (.cells (pre++x.set i (.int .i64 y)++post).toArray t (0,0))->K (cN g1 bb vb q)):St (cN g bb vb q) b off [.int .i64 y] K:=by
 obtain⟨a,d⟩:=dK c;have w:bb≠b:=λe=>by have:=r.free;rw[e,d]at this;cases this
 have p:=(List.getElem?_eq_some_iff.1 h).1;have j:=Heap.aR (o:=Obj.cells (pre++x.set i (.int .i64 y)++post).toArray t (0,0)) h0 a;refine gS r.free d (by simp only[List.length_append,List.length_cons,List.length_nil];omega) (gW s p) (m _ j (B.to j (by simp[Heap.set,w,r.free]) u) ?_ (by simp[Heap.set,λe=>f (Eq.symm e)];intro e;exact absurd e.symm f) (fk a));rw[fk a];exact JE c h v
theorem lN.VS {b off:Nat} {pre post:List Value} {t:TypeId} {L m:Bool} {H I:Option Addr} {E F p s:Nat} {c d:Value} {C D:List Int} (h0:g0.le g) (r:bz g bb vb q) (J:bz g0 bb vb q0) (z:q0<=q) (f:since g0 g b=some (.cells (pre++[Value.bool L,.slice H E p,.slice I F s]++post).toArray t (0,0))) (i:b≠bm) (y:off=pre.length) (u:cR (since g0 g) c C) (v:cR (since g0 g) d D)
  (w:∀ g1,g0.le g1->bz g1 bb vb q->s7 (since g0 g) (since g0 g1)->g1 bm=g bm->(∀ x,x≠b->since g0 g1 x=since g0 g x)->K (cN g1 bb vb q)):St (cN g bb vb q) b off [.bool m,c,d] K:=by
 obtain⟨a,h⟩:=dK f;have G:bb≠b:=λe=>by have:=r.free;rw[e,h]at this;cases this
 have j:=Heap.aR (o:=Obj.cells (pre++[Value.bool m,c,d]++post).toArray t (0,0)) h0 a;refine gS r.free h (by simp only[List.length_append,List.length_cons,List.length_nil];omega) (vu y rfl) (w _ j (J.to j (by simp[Heap.set,G,r.free]) z) ?_ (by simp[Heap.set,λe=>i (Eq.symm e)];intro e;exact absurd e.symm i) (λx B=>by rw[fk a];simp[Heap.set,B]));rw[fk a];exact Ae f u v
end
theorem Dl {g:Heap} {a:Nat} {vb:Value} {q:Int} {bytes sz:Nat} {zero:List Value} {j:TypeId} {p:Option Addr} {n cap m:Nat} {vs f:List Value} {K:Value->Heap->Prop} (r:bz g a vb q) (A:cap < n+m) (v:(n+m)*bytes<=2 ^ 44) (w:n+m<=2 ^ 44) (s:(p=none/\n=0/\f=[])\/∃ b off,p=some ⟨b,off,none⟩/\dQ g b off (n*sz)=some f)
  (y:∀ b c h,g b=none->b≠a->g.le h->bz h a vb q->n+m<=c->h b=some (.cells (f++vs++(List.replicate (c-(n+m)) zero).flatten).toArray j (0,0))->K (.slice (some ⟨b,0,none⟩) (n+m) c) (cN h a vb q)):App bytes sz zero j (cN g a vb q) p n cap m vs K:=by
 rw[lS];unfold xl;refine⟨λz=>O,λ_=>⟨v,w,f,?_,λb c d x=>?_⟩⟩
 ·rcases s with ⟨rfl,o,u⟩|⟨b,off,rfl,o⟩
  ·exact⟨o,u⟩
  exact bG (aX r.free) o
 have e:b≠a:=by
  rintro rfl;obtain⟨B,s⟩:=nR g b vb q;rw[s]at d;cases d
 rw[fP e]at d;have t:g.le (g.set b (.cells (f++vs++(List.replicate (c-(n+m)) zero).flatten).toArray j)):=Heap.aR (Heap.le_refl g) d;rw[yt e];exact y b c _ d e t (r.to t (by simp[Heap.set,λi=>e (Eq.symm i),r.free];intro i;exact absurd i.symm e) (Int.le_refl _)) x (cB _ _ _)
open Go.Vc Go.Proofs.Tryz
set_option maxRecDepth 100000
set_option maxHeartbeats 4000000
theorem JF {G:Heap} {f:Option Addr} {a g:Nat} {l:List kg} (C:Row 4 y9 G (.slice f a g) l) (A:(Value.slice f a g=.slice none 0 0/\l=[])\/∃ j,Value.slice f a g=.slice (some ⟨j,0,none⟩) 1 1/\l.length=1) :
  g < a+1/\a<=1/\∃ s,((f=none/\a=0/\s=[])\/∃ b off,f=some ⟨b,off,none⟩/\dQ G b off (a*4)=some s) /\
   ∀(h:Heap) (b c:Nat) (rest:List Value) (t:TypeId) (z:kg),h b=some (.cells (s++tE z++rest).toArray t (0,0))->a+1<=c->rest.length=(c-(a+1))*4->cH z.lo/\cH z.hi/\cH z.to/\cH z.cls->∃ E,Row 4 y9 h (.slice (some ⟨b,0,none⟩) (a+1) c) E:=by
 rcases A with ⟨e,rfl⟩|⟨j,e,B⟩
 ·simp only[Value.slice.injEq]at e;obtain⟨rfl,rfl,rfl⟩:=e;refine⟨O,O,[],.inl ⟨rfl,rfl,rfl⟩,λh b c rest t z m o D q=>⟨[z],?_⟩⟩;have p:bW 4 h (.slice (some ⟨b,0,none⟩) (0+1) c) ([z].map tE) [b]:=⟨λy d=>by obtain⟨w,_,rfl⟩:=List.mem_map.1 d;rfl,.inr ⟨b,c,rest,t,Z,by simpa using o,by simpa using m,by simp[tE];omega,rfl⟩⟩
  exact p.yu Z λy d=>⟨rfl,by rw[List.mem_singleton.1 d];exact q⟩
 simp only[Value.slice.injEq]at e;obtain⟨rfl,rfl,rfl⟩:=e;obtain⟨w,rfl⟩:∃ w,l=[w]:=by
  match l,B with
  | [w],_=>exact⟨w,rfl⟩
 obtain⟨H,off,I,u,v,x⟩:=C.get (i:=0) Z;simp only[Option.some.injEq,Addr.mk.injEq,and_true]at u;obtain⟨rfl,rfl⟩:=u;obtain⟨rfl,F⟩:=x;refine⟨O,O,tE w,.inr ⟨j,0,rfl,by simpa [tE]using v⟩,λh b c rest t z m o D q=>⟨[w,z],?_⟩⟩;have p:bW 4 h (.slice (some ⟨b,0,none⟩) (1+1) c) ([w,z].map tE) [b]:=⟨λy d=>by obtain⟨w,_,rfl⟩:=List.mem_map.1 d;rfl,.inr ⟨b,c,rest,t,Z,by simpa using o,by simpa using m,by simp[tE];omega,rfl⟩⟩
 refine p.yu Z λy d=>⟨rfl,?_⟩
 simp only[List.mem_cons,List.not_mem_nil,or_false]at d;rcases d with rfl|rfl
 ·exact F
 exact q
theorem JG {sz:Nat} {b off c:Nat} {K:Option Addr->Prop} (a:∀ d,(1 < c->d=off+sz)->K (some ⟨b,d,none⟩)) (j:0 < c) (m:0 < sz):Sub (some ⟨b,off,none⟩) c 1 sz K:=by
 refine sub λo g h=>?_;by_cases e:c=1
 ·rw[h e];exact a _ (λi=>O)
 rw[g e];have:(Option.map (λf=>Addr.add f (1*sz)) (some ⟨b,off,none⟩):Option Addr)=some ⟨b,off+sz,none⟩:=by
  simp only[Option.map_some,Addr.add];rw[if_neg O,Nat.one_mul]
 rw[this];exact a _ (λ_=>rfl)
theorem Eo {j:Type} {sz:Nat} {R:Heap->List Value->j->Prop} {h:Heap} {b off a n c:Nat} {l:List j} (q:Row sz R h (.slice (some ⟨b,off,none⟩) n c) l) (o:1 < c->a=off+sz):Row sz R h (.slice (some ⟨b,a,none⟩) (n-1) (c-1)) (l.drop 1):=by
 obtain⟨w,A,v,e,y,p⟩:=q;simp only[Value.slice.injEq]at e;obtain⟨rfl,rfl,rfl⟩:=e;refine⟨by simp;omega,some ⟨b,a,none⟩,c-1,Z,by simp;omega,?_⟩;by_cases e:l.length<=1
 ·exact .inl (List.drop_eq_nil_of_le e)
 rcases p with rfl|⟨u,z,f,s⟩
 ·simp at e
 simp only[Option.some.injEq,Addr.mk.injEq,and_true]at f;obtain⟨rfl,rfl⟩:=f;refine .inr ⟨b,a,rfl,λi x g=>?_⟩;obtain⟨t,d,m⟩:=s (i+1) x (by rw[List.getElem?_drop]at g;rw[Nat.add_comm];exact g);refine⟨t,?_,m⟩;rw[o O];rw[Nat.succ_mul]at d;rw[show off+sz+i*sz=off+(i*sz+sz)by omega];exact d
theorem Ep {g0 g:Heap} {s bm:Nat} {vb:Value} {X q:Int} {H:TypeId} {p:Option Addr} {n cap m:Nat} {l:List Int} {vs:List Value} {y:Int} {K:Value->Heap->Prop} (h0:g0.le g) (r:bz g s vb q) (r0:bz g0 s vb X) (hq:X<=q) (d:oP (bh (since g0 g) bm) (.slice p n cap) l) (hl:l.length<=100) (AU:vs=[.int .i64 y]) (hm:m=1) (T:cH y) (FM:∃ o,g bm=some o)
  (Q:∀ f W G l',g0.le f->bz f s vb q->s7 (since g0 g) (since g0 f)->f bm=g bm->cR (since g0 f) (.slice W (n+1) G) l'->((since g0 g).le (since g0 f)\/∃ b o,p=some ⟨b,o,none⟩/\∀ x,x≠b->since g0 f x=since g0 g x)->K (.slice W (n+1) G) (cN f s vb q)):App 8 1 [.int .i64 0] H (cN g s vb q) p n cap m vs K:=by
 subst AU hm;obtain⟨ob,S⟩:=FM;have A:n=l.length:=by
  obtain⟨_,_,e⟩:=d.form;simp only[Value.slice.injEq]at e;exact e.2.1
 have lu:∀ x∈l,cH x:=by
  obtain⟨F,d⟩:=d;rcases d with ⟨_,rfl,_⟩|⟨c,r,t,_,_,u,_⟩
  ·simp
  exact λx j=>u x (by simp[j])
 have N:∀ x∈l++[y],cH x:=λx j=>by
  simp only[List.mem_append,List.mem_singleton]at j;rcases j with j|rfl
  ·exact lu x j
  exact T
 by_cases L:cap < n+1
 ·have hold:(p=none/\n=0/\l.map (Value.int .i64)=[])\/∃ b V,p=some ⟨b,V,none⟩/\dQ g b V (n*1)=some (l.map (Value.int .i64)):=by
   obtain⟨F,d⟩:=d;rcases d with ⟨e,rfl,_⟩|⟨c,r,t,e,i,_,_⟩
   ·simp only[Value.slice.injEq]at e;exact .inl ⟨e.1,e.2.1,rfl⟩
   simp only[Value.slice.injEq]at e;refine .inr ⟨c,0,e.1,bG (aQ g0 g) (bG (eV _ bm) ?_)⟩;rw[bK i (n*1) 0 (by simp;omega),List.map_append,List.drop_zero,List.take_left' (by simp[A])]
  refine Dl r L O O hold (λb c I i v hle r' KQ hg=>?_);have w:since g0 I b=some (.cells ((l++[y]).map (Value.int .i64)++(List.replicate (c-(n+1)) [Value.int .i64 0]).flatten).toArray H (0,0)):=by
   rw[ef (bq h0 i),hg];simp
  have u:=j5 w (by simp;omega) (c:=c) (by simp;omega) N;have B:(l++[y]).length=n+1:=by simp[A]
  rw[B]at u;exact Q I _ c (l++[y]) (Heap.le_trans h0 hle) r' (s7.of_le (bE g0 hle)) (by rw[S];exact hle _ _ S) u (.inl (bE g0 hle))
 obtain⟨F,d⟩:=d;rcases d with ⟨e,rfl,_⟩|⟨c,E,t,e,i,u,_⟩
 ·simp only[Value.slice.injEq]at e;omega
 simp only[Value.slice.injEq]at e;obtain⟨rfl,_,rfl⟩:=e;have D:c≠bm:=by
  rintro rfl;simp[bh]at i
 have J:since g0 g c=some (.cells ((l++E).map (Value.int .i64)).toArray t (0,0)):=by
  unfold bh at i;rw[if_neg D]at i;exact i
 obtain⟨M,C⟩:=dK J;have v:c≠s:=by rintro rfl;rw[r.free]at C;cases C
 obtain⟨z,a,rfl⟩:∃ z a,E=z::a:=by
  cases E with
  | nil=>simp at L;omega
  | cons z a=>exact⟨z,a,rfl⟩
 have ew:dU ((l++z::a).map (Value.int .i64)) (0+n*1) [Value.int .i64 y]=((l++[y])++a).map (Value.int .i64):=by
  have:=fK [Value.int .i64 y] (l.map (Value.int .i64)) ((z::a).map (Value.int .i64)) Z;rw[List.map_append,show 0+n*1=(l.map (Value.int .i64)).length by simp[A],this];simp
 have Y:((l++[y])++a).map (Value.int .i64)=((l++z::a).map (Value.int .i64)).set l.length (.int .i64 y):=by
  simp[List.set_append]
 rw[lS];unfold xl;refine⟨λ_=>⟨rfl,?_⟩,λh=>O⟩;refine⟨_,t,by rw[fP v];exact C,by simp;omega,?_⟩;have R:=Heap.aR (o:=Obj.cells (((l++[y])++a).map (Value.int .i64)).toArray t (0,0)) h0 M;have w:since g0 (g.set c (.cells (((l++[y])++a).map (Value.int .i64)).toArray t (0,0)))=(since g0 g).set c (.cells (((l++[y])++a).map (Value.int .i64)).toArray t (0,0)):=fk M;have P:=j5 (h:=since g0 (g.set c (.cells (((l++[y])++a).map (Value.int .i64)).toArray t (0,0)))) (b:=c) (c:=(l++z::a).length) (l:=l++[y]) (rest:=a.map (Value.int .i64)) (t:=t) (fz:=(0,0)) (by rw[w,cB,List.map_append]) (by simp;omega) Z N;have B:(l++[y]).length=n+1:=by simp[A]
 rw[B]at P;simp only[List.toList_toArray];rw[ew,yt v];refine Q _ _ _ (l++[y]) R (r0.to R (by simp[Heap.set,λe=>v (Eq.symm e),r.free];intro e;exact absurd e.symm v) hq) ?_ (by simp[Heap.set,λe=>D (Eq.symm e)];intro e;exact absurd e.symm D) P (.inr ⟨c,0,rfl,λx j=>by rw[w];simp[Heap.set,j]⟩);rw[w,Y];exact s9 (x:=z) (cs:=(l++z::a).map (Value.int .i64)) J Z T
theorem Hy {b:Type} (k:Nat) (z:List b):(List.replicate k z).flatten.length=k*z.length:=by
 induction k with
 | zero=>simp
 | succ k a=>rw[List.replicate_succ,List.flatten_cons,List.length_append,a,Nat.succ_mul];omega
theorem Cl {h h':Heap} {bm i a n c b j:Nat} {recs:List (List Value)} {r pre post:List Value} {x:dc} {t:TypeId} {y:Int} (e:eg Kd h bm recs) (f:recs[i]? = some r) (d:r[5]? = some (.slice (some ⟨a,0,none⟩) n c)) (p:h a=some (.cells (pre++cJ x++post).toArray t (0,0))) (u:pre.length=0+b*3) (o:b < n) (s:j < 3)
  (g:h'=h.set a (.cells (pre++(cJ x).set j (.int .i64 y)++post).toArray t (0,0))):eg Kd h' bm recs\/eg Kh h' bm recs/\r=r:=by
 by_cases q:i=0
 ·subst q;exact .inr ⟨by rw[g];exact En e f d p u o s y,rfl⟩
 exact .inl (e.other f (λw m=>m.2.1 O _ d _ _ _ _ rfl) λx v _=>by rw[g];simp[Heap.set,v])
theorem JH {G:Heap} {bm:Nat} {f g h i:Int} {a b c s k:Value} {m:cu} {l:List Int} (d:lP G bm [.int .i64 f,.int .i64 g,a,.int .i64 h,.int .i64 i,c,s,k] m) (v:cR G b l):lP G bm [.int .i64 f,.int .i64 g,b,.int .i64 h,.int .i64 i,c,s,k] {m with args:=l}:=by
 refine⟨?_,λC D I E F j y n o x e=>d.at_ C D a E F j y n o x ?_⟩
 ·obtain⟨H,J,L,K,e,i1,i2,i3,w,M,z,A,B⟩:=d.read;simp only[List.cons.injEq,and_true]at e;obtain⟨p,q,rfl,t,u,rfl,rfl,rfl⟩:=e;exact⟨b,_,_,_,by rw[p,q,t,u],i1,i2,i3,w,v,z,A,B⟩
 simp only[List.cons.injEq,and_true]at e ⊢;exact⟨e.1,e.2.1,trivial,e.2.2.2⟩
theorem lP.le {g a:Heap} {bm:Nat} {c:List Value} {m:cu} (d:g.le a) (b:lP g bm c m):lP a bm c m:=⟨b.read.le d,b.at_⟩
theorem xe {g0 s:Heap} {P:Nat} {vb:Value} {q0 p:Int} {cp:Option Addr} {cc:Nat} {cs:List dH} {bm cm:Nat} {recs:List (List Value)} {A:List cu} (t:bz g0 P vb q0) (r:bz s P vb p) (hq:q0<=p) (hp:p<=50000000) (h0:g0.le s) (nz:Jx (since g0 s)) (u:lN g0 s cp cc cs bm cm recs A A.length) :
  XU prog 34 [.pointer (some ⟨P,0,none⟩),.agg #[.slice cp cs.length cc,.slice (some ⟨bm,0,none⟩) A.length cm]] g0 s P vb p 1000 λg' v=>∃ us u',v=.agg ⟨us⟩/\cZ g' us u'/\vw u'.methods:=by
 have MM:=u.num;have hcn:=u.ok.1;have vL:=u.ok.2.1;have zl:∃ ae,s bm=some ae:=u.fresh.2;refine bT aB func34 G34 U rfl ?_;conv=>whnf
 refine bB r O (λk k0 k1 k2 r1=>?_);have B:k.toNat < A.length:=by omega
 have I:=u.row.at B;obtain⟨Ra,e3,hf,_⟩:=I;have md:=u.mid k.toNat Ra B;have Ir:decide (k.toNat < A.length)=true:=by simp[B]
 rw[Ir]at md;have hw:=md.wh rfl;obtain⟨⟨VT,M3⟩,PS,KG,ag,bc,kc,bs,ks,kv,W,⟨NL,Q⟩,JD⟩:=hw;have KX:=md.head;clear md;have M:=hf.yH;have hex:=hf.ex;have q:recs[k.toNat]? = some recs[k.toNat]:=List.getElem?_eq_getElem Ra;have D:=u.fst O;rw[W]at hex M e3 q;clear W hf Ir;generalize A[k.toNat]=y at VT M3 PS KG JD KX M hex e3 q;obtain⟨a',c',s',k',e',i1,i2,i3,w,⟨az,an⟩,R,N,rk,_⟩:=hex;simp only[List.cons.injEq,and_true,true_and]at e';obtain⟨rfl,rfl,rfl,rfl⟩:=e';have I:=az.form;obtain⟨ap,ac,rfl⟩:=I;have Qe:∃ p n af,kv=Value.slice p n af:=by
  rcases JD with ⟨rfl,_⟩|⟨bk,rfl,_⟩
  ·exact⟨_,_,_,rfl⟩
  exact⟨_,_,_,rfl⟩
 obtain⟨pk,nk,ck,rfl⟩:=Qe;have M4:=JF rk JD;have NN:y.aT.length<=ks:=by
  obtain⟨_,_,e3,h4,_⟩:=N.len;simp only[Value.slice.injEq]at e3;omega
 have we:=KX.2.2.2.2.1;have Gk:0<=y.locals:=by have:=KX.2.2.2.2.2;omega
 have Q9:dQ (cN s P vb (p+1)) bm (0+k.toNat*8) 8=some _:=bG (aX r1.free) (bG (aQ _ _) e3);conv=>whnf
 refine ay ?_;conv=>whnf
 refine ptr ?_;conv=>whnf
 refine dh Q9 ?_;conv=>whnf
 refine bB r1 O (λV a0 a1 a2 r2=>?_);have vX:V.toNat < y.code.length:=by omega
 have JI:V.toNat < y.aT.length:=by omega
 have I:=lO R nz O vX;obtain⟨b1,o1,Wq,VU,K2,t1,yc,hf1,vW,Y,Aq,Ji,HU⟩:=I;simp only[Option.some.injEq,Addr.mk.injEq,and_true]at yc;obtain⟨rfl,rfl⟩:=yc;obtain⟨rfl,j1,j2,j3⟩:=HU;have I:=lO N nz O JI;obtain⟨b2,o2,Nt,VV,CY,t2,BM,hf2,oU,uD,JJ,PC,Lr⟩:=I;simp only[Option.some.injEq,Addr.mk.injEq,and_true]at BM;obtain⟨rfl,rfl⟩:=BM;obtain⟨sv1,sv2,rfl,VW,M5⟩:=Lr;have I:=VW.len;obtain⟨_,_,rfl,_,_⟩:=I;have I:=M5.len;obtain⟨_,_,rfl,_,_⟩:=I;have X:cR (since g0 s) (.slice ap y.args.length ac) y.args:=(az.ints O).le (eV _ _);have NP:s7 (since g0 s) (since g0 s):=s7.of_le (Heap.le_refl _);conv=>whnf
 refine bB r2 O (λaa x0 x1 x2 o=>?_);conv=>whnf
 apply aD<;>intro c0;all_goals conv=>whnf
 ·have ja:rd (cN s P vb (p+1+1+1)) bc (0+V.toNat*3+1)=some (.int .i64 y.code[V.toNat].a):=aW (aX o.free) (aW (aQ _ _) (aM Ji (i:=1) rfl));have jb:rd (cN s P vb (p+1+1+1+1)) bc (0+V.toNat*3+1)=some (.int .i64 y.code[V.toNat].a):=aW (aX o.free) (aW (aQ _ _) (aM Ji (i:=1) rfl));repeat' ((first|exact trivial|apply And.intro|refine ld ja ?_|refine ld jb ?_|refine bB o O (λz S K T J=>?_)|refine ay ?_|refine ptr ?_|refine m7 ?_)<;>conv=>whnf)
  all_goals
   refine lN.VR h0 (bz.on o O) t O Y NL (i:=1) (by rw[Aq]) rfl (Hw _) (λL x F C Hz qC=>?_);conv=>whnf
   refine(M.Hx C).elim λm2 m=>?_;refine ay ?_;conv=>whnf
   refine ptr ?_;conv=>whnf
   refine u.mT (C.yH bm) Hz B m (gE i1 i2 i3 w) F t O x rfl ⟨_,q,rfl,(Cl D q rfl Y Aq vX (by decide) qC)⟩ (λG c j f g d h H e=>?_);conv=>whnf
   exact⟨_,_,rfl,f,g.free,O,O,_,⟨j,c⟩,rfl,⟨_,_,rfl,h.le (aQ _ _) (λ_ _ a=>a.le (aQ _ _)),d.le (aQ _ _) (λ_ _ a=>a.le (aQ _ _))⟩,e⟩
 apply aD<;>intro c1;all_goals conv=>whnf
 ·refine bB o O (λz S K T J=>?_);conv=>whnf
  refine av ?_;conv=>whnf
  refine ay ?_;conv=>whnf
  refine ptr ?_;conv=>whnf
  refine lN.VR h0 (bz.on o O) t O Y NL (i:=2) (by rw[Aq]) rfl (by unfold cH;omega) (λL x F C Hz qC=>?_);conv=>whnf
  refine(M.Hx C).elim λm2 m=>?_;refine ay ?_;conv=>whnf
  refine ptr ?_;conv=>whnf
  refine u.mT (C.yH bm) Hz B m (gE i1 i2 i3 w) F t O x rfl ⟨_,q,rfl,(Cl D q rfl Y Aq vX (by decide) qC)⟩ (λG c j f g d h H e=>?_);conv=>whnf
  exact⟨_,_,rfl,f,g.free,O,O,_,⟨j,c⟩,rfl,⟨_,_,rfl,h.le (aQ _ _) (λ_ _ a=>a.le (aQ _ _)),d.le (aQ _ _) (λ_ _ a=>a.le (aQ _ _))⟩,e⟩
 apply aD<;>intro c2;all_goals conv=>whnf
 ·refine bB o O (λz S K T J=>?_);conv=>whnf
  refine ay ?_;conv=>whnf
  refine ptr ?_;conv=>whnf
  refine lN.VR h0 (bz.on o O) t O Y NL (i:=0) (by rw[Aq]) rfl (by unfold cH;omega) (λL x F C Hz qC=>?_);conv=>whnf
  refine(M.Hx C).elim λm2 m=>?_;refine ay ?_;conv=>whnf
  refine ptr ?_;conv=>whnf
  refine u.mT (C.yH bm) Hz B m (gE i1 i2 i3 w) F t O x rfl ⟨_,q,rfl,(Cl D q rfl Y Aq vX (by decide) qC)⟩ (λG c j f g d h H e=>?_);conv=>whnf
  exact⟨_,_,rfl,f,g.free,O,O,_,⟨j,c⟩,rfl,⟨_,_,rfl,h.le (aQ _ _) (λ_ _ a=>a.le (aQ _ _)),d.le (aQ _ _) (λ_ _ a=>a.le (aQ _ _))⟩,e⟩
 apply aD<;>intro c3;all_goals conv=>whnf
 ·refine fq o (vm cs.length y.locals o O h0 O O) (λv L q4 x F Hf Hg b=>?_);refine b.elim λtv b=>b.elim λp5 b=>b.elim λn5 b=>b.elim λc5 b=>b.elim λp6 b=>b.elim λn6 b=>b.elim λc6 b=>b.elim λl5 b=>b.elim λl6 b=>?_;have hv:=b.1;subst hv;have Qc:=Heap.le_trans h0 x;have lm:=bE g0 x;conv=>whnf
  refine ay ?_;conv=>whnf
  refine ptr ?_;conv=>whnf
  refine lN.VS (bm:=bm) Qc F t O (lm _ _ uD) Q (by rw[JJ]) b.2.1 b.2.2 (λg6 l6 r6 C El VX=>?_);conv=>whnf
  refine(M.Hx (s7.trans (s7.of_le lm) C)).elim λm2 m=>?_;refine ay ?_;conv=>whnf
  refine ptr ?_;conv=>whnf
  refine(u.aJ x).mT (C.yH bm) El B m (gE i1 i2 i3 w) r6 t O l6 rfl ⟨_,q,rfl,(.inl ((eg.le lm D).other q (λab ha=>ha.2.2 _ rfl _ _ _ _ rfl) λaa a _=>VX aa a))⟩ (λG c j f g d h H e=>?_);conv=>whnf
  exact⟨_,_,rfl,f,g.free,O,O,_,⟨j,c⟩,rfl,⟨_,_,rfl,h.le (aQ _ _) (λ_ _ a=>a.le (aQ _ _)),d.le (aQ _ _) (λ_ _ a=>a.le (aQ _ _))⟩,e⟩
 apply aD<;>intro c4;all_goals conv=>whnf
 ·refine ay ?_;conv=>whnf
  refine JG (λDA ho=>?_) O (by decide);conv=>whnf
  have m:lP (since g0 s) bm _ {y with aT:=y.aT.drop 1}:=Em ⟨_,_,_,_,rfl,i1,i2,i3,w,X,R,Eo N ho,rk⟩ Q;refine ay ?_;conv=>whnf
  refine ptr ?_;conv=>whnf
  refine u.mT (NP.yH bm) rfl B m (gE i1 i2 i3 w) o t O h0 rfl ⟨_,q,rfl,(.inl D)⟩ (λG c j f g d h H e=>?_);conv=>whnf
  exact⟨_,_,rfl,f,g.free,O,O,_,⟨j,c⟩,rfl,⟨_,_,rfl,h.le (aQ _ _) (λ_ _ a=>a.le (aQ _ _)),d.le (aQ _ _) (λ_ _ a=>a.le (aQ _ _))⟩,e⟩
 apply aD<;>intro c5;all_goals conv=>whnf
 ·refine bB o O (λz S K T J=>?_);conv=>whnf
  have E:cH z:=by unfold cH;omega
  have m:lP (since g0 s) bm _ {y with locals:=z}:=Em ⟨_,_,_,_,rfl,i1,i2,i3,E,X,R,N,rk⟩ Q;refine ay ?_;conv=>whnf
  refine ptr ?_;conv=>whnf
  refine u.mT (NP.yH bm) rfl B m (gE i1 i2 i3 E) J t O h0 rfl ⟨_,q,rfl,(.inl D)⟩ (λG c j f g d h H e=>?_);conv=>whnf
  exact⟨_,_,rfl,f,g.free,O,O,_,⟨j,c⟩,rfl,⟨_,_,rfl,h.le (aQ _ _) (λ_ _ a=>a.le (aQ _ _)),d.le (aQ _ _) (λ_ _ a=>a.le (aQ _ _))⟩,e⟩
 apply aD<;>intro c6;all_goals conv=>whnf
 ·refine fq o (oH cs.length o O O) (λv L q4 x F Hf Hg b=>?_);obtain⟨rfl,z,rfl,S,K⟩:=b;conv=>whnf
  have E:cH z:=by unfold cH;omega
  have m:lP (since g0 L) bm _ {y with out:=z}:=Em ⟨_,_,_,_,rfl,i1,i2,E,w,X,R,N,rk⟩ Q;refine ay ?_;conv=>whnf
  refine ptr ?_;conv=>whnf
  refine u.mT (NP.yH bm) rfl B m (gE i1 i2 E w) F t O h0 rfl ⟨_,q,rfl,(.inl D)⟩ (λG c j f g d h H e=>?_);conv=>whnf
  exact⟨_,_,rfl,f,g.free,O,O,_,⟨j,c⟩,rfl,⟨_,_,rfl,h.le (aQ _ _) (λ_ _ a=>a.le (aQ _ _)),d.le (aQ _ _) (λ_ _ a=>a.le (aQ _ _))⟩,e⟩
 apply aD<;>intro c7;all_goals conv=>whnf
 ·refine M4.2.2.elim λqv K3=>?_;have hnk:=M4.2.1;refine bB o O (λK y10 y11 y12 r41=>?_);conv=>whnf
  refine bB r41 O (λT y20 y21 y22 r42=>?_);conv=>whnf
  refine bB r42 O (λy3 y30 y31 y32 r43=>?_);conv=>whnf
  refine bB r43 O (λy4 y40 y41 y42 r44=>?_);conv=>whnf
  refine Dl r44 M4.1 (by show(nk+1)*32<=2 ^ 44;omega) O (K3.1.imp id (λ⟨ab,off,W,ad⟩=>⟨ab,off,W,bG (aQ g0 s) ad⟩)) (λb5 c5 g5 vG aao l5 J vL hg5=>?_);have VL:=Heap.le_trans h0 l5;have ls:=bE g0 l5;have FV:=K3.2 (since g0 g5) b5 c5 _ _ ⟨K,T,y3,y4⟩ (by rw[ef (bq h0 vG)];exact hg5) vL (Hy _ _) (by simp only;unfold cH;omega);conv=>whnf
  refine FV.elim λl' FV=>?_;have m:lP (since g0 g5) bm _ {y with catches:=l' }:=Em ⟨_,_,_,_,rfl,i1,i2,i3,w,X.le ls,R.le ls (λ_ _ a=>a),N.le ls (λ_ _ a=>a.le ls),FV⟩ Q;refine ay ?_;conv=>whnf
  refine ptr ?_;conv=>whnf
  refine(u.aJ l5).mT ((s7.of_le (Heap.le_refl _)).yH bm) rfl B m (gE i1 i2 i3 w) J t O VL rfl ⟨_,q,rfl,(.inl (eg.le ls D))⟩ (λG c j f g d h H e=>?_);conv=>whnf
  exact⟨_,_,rfl,f,g.free,O,O,_,⟨j,c⟩,rfl,⟨_,_,rfl,h.le (aQ _ _) (λ_ _ a=>a.le (aQ _ _)),d.le (aQ _ _) (λ_ _ a=>a.le (aQ _ _))⟩,e⟩
 apply aD<;>intro c8;all_goals conv=>whnf
 ·refine bB o O (λz S K T J=>?_);conv=>whnf
  refine av ?_;conv=>whnf
  have E:cH (z-2):=by unfold cH;omega
  have m:lP (since g0 s) bm _ {y with cls:=z-2}:=Em ⟨_,_,_,_,rfl,E,i2,i3,w,X,R,N,rk⟩ Q;refine ay ?_;conv=>whnf
  refine ptr ?_;conv=>whnf
  refine u.mT (NP.yH bm) rfl B m (gE E i2 i3 w) J t O h0 rfl ⟨_,q,rfl,(.inl D)⟩ (λG c j f g d h H e=>?_);conv=>whnf
  exact⟨_,_,rfl,f,g.free,O,O,_,⟨j,c⟩,rfl,⟨_,_,rfl,h.le (aQ _ _) (λ_ _ a=>a.le (aQ _ _)),d.le (aQ _ _) (λ_ _ a=>a.le (aQ _ _))⟩,e⟩
 apply aD<;>intro c9;all_goals conv=>whnf
 ·refine bB o O (λz S K T J=>?_);conv=>whnf
  have E:cH z:=by unfold cH;omega
  have m:lP (since g0 s) bm _ {y with er:=z}:=Em ⟨_,_,_,_,rfl,i1,E,i3,w,X,R,N,rk⟩ Q;refine ay ?_;conv=>whnf
  refine ptr ?_;conv=>whnf
  refine u.mT (NP.yH bm) rfl B m (gE i1 E i3 w) J t O h0 rfl ⟨_,q,rfl,(.inl D)⟩ (λG c j f g d h H e=>?_);conv=>whnf
  exact⟨_,_,rfl,f,g.free,O,O,_,⟨j,c⟩,rfl,⟨_,_,rfl,h.le (aQ _ _) (λ_ _ a=>a.le (aQ _ _)),d.le (aQ _ _) (λ_ _ a=>a.le (aQ _ _))⟩,e⟩
 apply aD<;>intro W9;all_goals conv=>whnf
 ·refine fq o (oH cs.length o O O) (λv L q4 x F Hf Hg b=>?_);obtain⟨rfl,z,rfl,S,K⟩:=b;conv=>whnf
  have E:cH z:=by unfold cH;omega
  refine Ep (bm:=bm) h0 F t O az an rfl rfl E zl (λg6 p6 c6 l6' l6 r6 C El mW VX=>?_);conv=>whnf
  refine(M.Hx C).elim λm2 VY=>?_;have m:=JH VY mW;refine ay ?_;conv=>whnf
  refine ptr ?_;conv=>whnf
  refine u.mT (C.yH bm) El B m (gE i1 i2 i3 w) r6 t O l6 rfl ⟨_,q,rfl,(.inl (VX.elim (λad=>eg.le ad D) λ⟨ab,ae,W,a⟩=>D.other q (λbc ha=>ha.1 _ rfl _ _ _ _ (by rw[W])) λaa hn _=>a aa hn))⟩ (λG c j f g d h H e=>?_);conv=>whnf
  exact⟨_,_,rfl,f,g.free,O,O,_,⟨j,c⟩,rfl,⟨_,_,rfl,h.le (aQ _ _) (λ_ _ a=>a.le (aQ _ _)),d.le (aQ _ _) (λ_ _ a=>a.le (aQ _ _))⟩,e⟩
 refine fq o (Hh o O (Heap.le_refl _)) (λv L q4 x F Hf Hg b=>?_);refine b.elim λp5 b=>b.elim λn5 b=>b.elim λc5 b=>b.elim λl5 b=>?_;have hv:=b.1;subst hv;have Qc:=Heap.le_trans h0 x;conv=>whnf
 refine ay ?_;conv=>whnf
 refine ptr ?_;conv=>whnf
 refine(u.aJ x).mT ((s7.of_le (Heap.le_refl _)).yH bm) rfl B (M.le (bE g0 x)) (gE i1 i2 i3 w) F t O Qc rfl ⟨_,q,rfl,.inl (eg.le (bE g0 x) D)⟩ (λG c j f g d h H e=>?_);conv=>whnf
 have lg:(since s L).le G:=λaa ae a=>by
  obtain⟨h1,h2⟩:=dK a;rw[H aa (by rintro rfl;obtain⟨o',ho'⟩:=zl;rw[ho']at h1;cases h1)];exact h2
 exact⟨_,_,rfl,f,g.free,O,O,_,⟨l5,c⟩,rfl,⟨_,_,rfl,b.2.le lg (λ_ _ a=>a.le lg),d.le (aQ _ _) (λ_ _ a=>a.le (aQ _ _))⟩,e⟩
structure One (G G1:Heap):Prop where
 int:tD G G1
 same:∀ b off v,rd G b off=some v->(∀ x,v≠.int .i64 x)->rd G1 b off=some v
theorem JK {g c:Heap} (a:One g c):Ad g c 2 vQ:=by
 rintro p s t x b ⟨q,rfl,i1,i2⟩;obtain⟨_,_,rfl,_⟩:=i2.len;obtain⟨e,b⟩:=cV b;obtain⟨f,_⟩:=cV b;obtain⟨o,d,i⟩:=a.int _ _ _ e i1;obtain⟨m,j,_⟩:=eP a.int i2;exact⟨_,⟨o,m⟩,dB d (jy (a.same _ _ _ f (λx h=>nomatch h))),_,rfl,i,j⟩
theorem JL {g c:Heap} (a:One g c):Ad g c 3 jJ:=by
 rintro p t u x b ⟨q,s,rfl,i1,i2⟩;obtain⟨_,_,rfl,_⟩:=i1.len;obtain⟨_,_,rfl,_⟩:=i2.len;obtain⟨d,b⟩:=cV b;obtain⟨e,b⟩:=cV b;obtain⟨f,_⟩:=cV b;obtain⟨m,i,_⟩:=eP a.int i1;obtain⟨o,j,_⟩:=eP a.int i2;exact⟨_,⟨x.told,m,o⟩,dB (a.same _ _ _ d (λx h=>nomatch h)) (dB (a.same _ _ _ e (λx h=>nomatch h)) (jy (a.same _ _ _ f (λx h=>nomatch h)))),_,_,rfl,i,j⟩
theorem JM {g c:Heap} (a:One g c):Ad g c 8 dO:=by
 rintro Y off vs aa b v;obtain⟨p1,c1,p2,c2,p3,c3,p4,c4,rfl,i1,i2,i3,w,q,s,t,u,_⟩:=v.form;obtain⟨K,b⟩:=cV b;obtain⟨L,b⟩:=cV b;obtain⟨M,b⟩:=cV b;obtain⟨N,b⟩:=cV b;obtain⟨P,b⟩:=cV b;obtain⟨Q,b⟩:=cV b;obtain⟨R,b⟩:=cV b;obtain⟨S,_⟩:=cV b;obtain⟨T,d,y⟩:=a.int _ _ _ K i1;obtain⟨V,e,z⟩:=a.int _ _ _ L i2;obtain⟨W,i,A⟩:=a.int _ _ _ N i3;obtain⟨X,j,B⟩:=a.int _ _ _ P w;have f:=a.same _ _ _ M (λx h=>nomatch h);have m:=a.same _ _ _ Q (λx h=>nomatch h);have o:=a.same _ _ _ R (λx h=>nomatch h);have p:=a.same _ _ _ S (λx h=>nomatch h);obtain⟨C,G,_⟩:=eP a.int q;obtain⟨D,H,_⟩:=fZ (tO a.int) s;obtain⟨E,I,_⟩:=fZ (JL a) t;obtain⟨F,J,_⟩:=fZ (tP a.int) u;exact⟨_,⟨T,V,C,W,X,D,E,F⟩,dB d (dB e (dB f (dB i (dB j (dB m (dB o (jy p))))))),_,_,_,_,rfl,y,z,A,B,G,H,I,J⟩
theorem Dm {g b:Heap} (a:One g b) {c:List Value} {u:aS} (h:cZ g c u):∃ q,cZ b c q:=by
 obtain⟨d,m,rfl,e,f⟩:=h;obtain⟨i,o,_⟩:=fZ (JK a) e;obtain⟨j,p,_⟩:=fZ (JM a) f;exact⟨⟨i,j⟩,d,m,rfl,o,p⟩
theorem JN {G:Heap} {b:Nat} {pre x y post:List Value} {t:TypeId} (g:G b=some (.cells (pre++x++post).toArray t (0,0))) (s:y.length=x.length) (B:∀ v∈x,∃ z,v=.int .i64 z) (C:∀ v∈y,∃ z,v=.int .i64 z/\cH z):One G (G.set b (.cells (pre++y++post).toArray t (0,0))):=by
 have o:∀ c a,(c=b/\∃ j,j < x.length/\a=pre.length+j)\/rd (G.set b (.cells (pre++y++post).toArray t (0,0))) c a=rd G c a:=by
  intro c a;by_cases e:c=b
  ·subst e;by_cases d:a < pre.length
   ·right
    rw[jI];simp only[rd,g,List.getElem?_toArray];rw[List.append_assoc,List.append_assoc,List.getElem?_append_left d,List.getElem?_append_left d]
   by_cases E:a < pre.length+x.length
   ·exact .inl ⟨rfl,a-pre.length,O,O⟩
   right
   rw[jI];simp only[rd,g,List.getElem?_toArray];rw[List.getElem?_append_right (by simp;omega),List.getElem?_append_right (by simp;omega)];simp[s]
  exact .inr (kq e)
 have A:(G.set b (.cells (pre++y++post).toArray t (0,0))) b=some (.cells (pre++y++post).toArray t (0,0)):=cB _ _ _;refine⟨λc a z D q=>?_,λc a v m u=>?_⟩
 ·rcases o c a with ⟨rfl,j,h,rfl⟩|e
  ·obtain⟨w,f,p⟩:=C y[j] (List.getElem_mem O);exact⟨w,bA A (i:=j) rfl (by rw[<-f];exact List.getElem?_eq_getElem O),p⟩
  exact⟨z,by rw[e];exact D,q⟩
 rcases o c a with ⟨rfl,j,h,rfl⟩|e
 ·have d:=bA g (i:=j) rfl (List.getElem?_eq_getElem h);rw[m]at d;obtain⟨w,f⟩:=B x[j] (List.getElem_mem h);exact absurd ((Option.some.inj d).trans f) (u w)
 rw[e];exact m
theorem HA {P:Program} {f:FuncId} {args:List Value} {d g:Heap} {R:Value->Heap->Prop} (q:d.le g) (C:bI P f args d R) :
  bI P f args g λv h'=>∃ h,R v h/\(∀ x,d x=none->g x≠none->h' x=g x)/\(∀ x,d x≠none\/g x=none->h' x=h x)/\∀ x,d x=none->g x≠none->h x=none:=by
 intro A p;refine(C A (λt o c=>p t o (q t o c))).mono ?_;rintro B F ⟨h,m,s⟩;have D:∀ x,d x=none->g x≠none->h x=none:=λx a b=>by
  cases c:h x with
  | none=>rfl
  | some o =>
   rcases m.tG x (by rw[c];simp)with e|e
   ·exact absurd a e
   cases w:g x with
   | none=>exact absurd w b
   | some y=>have:=dX (p x y w);omega
 let h':Heap:=λx=>match d x,g x with
  | none,some o=>some o
  | _,_=>h x
 have u:∀ x o,d x=none->g x=some o->h' x=some o:=λx o a b=>by simp[h',a,b]
 have j:∀ x,d x≠none\/g x=none->h' x=h x:=λx i=>by
  cases a:d x with
  | none =>
   cases b:g x with
   | none=>simp[h',a,b]
   | some o =>
    rcases i with i|i
    ·exact absurd a i
    rw[b]at i;cases i
  | some y=>simp[h',a]
 have E:cK g A h' F:=by
  refine⟨λx y c=>?_,λx c z=>?_,λx c=>?_,m.size,m.fz,m.out⟩
  ·cases a:d x with
   | none =>
    cases b:g x with
    | none=>rw[j x (.inr b)]at c;exact m.view x y c
    | some o =>
     rw[u x o a b]at c;rw[m.aJ x (dX (p x o b)) a,<-c];exact p x o b
   | some H=>rw[j x (.inl (by rw[a];simp))]at c;exact m.view x y c
  ·refine m.aJ x c ?_;cases a:d x with
   | none=>rfl
   | some o=>rw[q x o a]at z;cases z
  by_cases b:g x=none
  ·rw[j x (.inr b)]at c;rcases m.tG x c with e|e
   ·left
    cases a:d x with
    | none=>exact absurd a e
    | some o=>rw[q x o a];simp
   exact .inr e
  exact .inl b
 refine⟨h',E,?_⟩;cases B with
 | returned v =>
  refine⟨h,s,λx a b=>?_,j,D⟩;cases e:g x with
  | none=>exact absurd e b
  | some o=>exact u x o a e
 | panicked G=>exact s.elim
 | outgrown=>exact s.elim
theorem K4 {P:Program} {f:FuncId} {args:List Value} {g:Heap} {b:Nat} {vb:Value} {p k:Int} {A:Heap->Value->Prop} {K:Value->Heap->Prop} {E:List PanicEntry->Heap->Prop} (r:bz g b vb p) (w:Dr P f args g b vb p k A)
  (y:∀ v a q,g.le a->bz a b vb q->p<=q->q<=p+k->Jx (since g a)->A a v->K v (cN a b vb q)):Go.Vc.Call P f args (cN g b vb p) K E :=
 aG (bI.fz w) λv F x=>by
  obtain⟨⟨a,q,rfl,m,j,i,s,u⟩,B⟩:=x;refine y v a q m (r.to m j i) i s (λe o C D z=>?_) u;obtain⟨t,d⟩:=dK z;have h:e≠b:=by rintro rfl;rw[j]at d;cases d
  rcases B e o C D (by rw[fP h];exact d)with c|c
  ·exact c
  rw[fP h,t]at c;cases c
theorem lN.NO {g0 g b:Heap} {h:Option Addr} {e:Nat} {cs:List dH} {bm f:Nat} {recs:List (List Value)} {A:List cu} {k:Nat} (u:lN g0 g h e cs bm f recs A k) (a:tF (since g0 g) (since g0 b) bm) (t:b bm=g bm):∃ B,cZ (since g0 b) [.slice h cs.length e,.slice (some ⟨bm,0,none⟩) A.length f] B:=by
 obtain⟨c,p,q⟩:=gT (Q:=λj (x:cu)=>∀ i:j < recs.length,dO (since g0 b) recs[j] x) A.length (λj m=>by
  obtain⟨y,z⟩:=(u.row.each j (by rw[u.row.len];exact m) m).yH.NO a;exact⟨y,λ_=>z⟩)
 obtain⟨w,v⟩:=Ao a u.cls;have own:=u.row.own.aJ (h':=since g0 b) (λC s D d=>by rw[List.mem_singleton.1 s]at d ⊢;unfold since at d ⊢;rw[t];exact d);exact⟨⟨w,c⟩,_,_,rfl,v,own.MX (by rw[u.row.len,p]) (by show c.length<=_;have:=u.num;omega) λj i o=>q j c[j] (by simp[o]) i⟩
def NQ (g:Heap) (v:Value):Prop:=∃ a u,v=.agg ⟨a⟩/\cZ g a u
theorem NQ.elim {g:Heap} {v:Value} {K:Prop} (h:NQ g v) (a:∀ p n c q m d u,v=.agg #[.slice p n c,.slice q m d]->cZ g [.slice p n c,.slice q m d] u->K):K:=by
 obtain⟨f,u,rfl,h⟩:=h;obtain⟨e,b,q,d,rfl,_⟩:=h.form;exact a _ _ _ _ _ _ _ rfl h
def As (g:Heap) (v:Value):Prop:=∃ a u,v=.agg ⟨a⟩/\cZ g a u/\vw u.methods
theorem As.toD {g:Heap} {v:Value} (h:As g v):NQ g v:=by
 obtain⟨a,u,e,h,_⟩:=h;exact⟨a,u,e,h⟩
theorem As.elim {g:Heap} {v:Value} {K:Prop} (h:As g v) (b:∀ p n c q m d u,v=.agg #[.slice p n c,.slice q m d]->cZ g [.slice p n c,.slice q m d] u->vw u.methods->K):K:=by
 obtain⟨i,u,rfl,h,a⟩:=h;obtain⟨f,e,q,d,rfl,_⟩:=h.form;exact b _ _ _ _ _ _ _ rfl h a
theorem lN.Qh {g0 i:Heap} {h:Option Addr} {f:Nat} {cs:List dH} {bm g:Nat} {recs:List (List Value)} {A:List cu} (u:lN g0 i h f cs bm g recs A A.length):vw A:=by
 intro B m;obtain⟨c,rfl⟩:=List.getElem?_eq_some_iff.1 m;have d:0 < recs.length:=by rw[u.row.len];exact c
 obtain⟨s,n,t,⟨C,a,b⟩,x,j,_⟩:=u.fst c;obtain⟨q,v,D,z,e,_,_,_,_,_,p,_⟩:=(u.row.each 0 d c).ex;rw[List.getElem?_eq_getElem d]at a;simp only[Option.some.injEq]at a;rw[<-a,e]at b;simp only[List.getElem?_cons_succ,List.getElem?_cons_zero,Option.some.injEq]at b;subst b;obtain⟨o,y,e,_,k,_⟩:=Dj j p;exact⟨o,y,e,λw=>O⟩
theorem Er {g:Heap} {b:Nat} {vb:Value} {p:Int} (r:bz g b vb p) (E:p<=20000000) (j:KV g) :
  Dr prog 31 [.pointer (some ⟨b,0,none⟩)] g b vb p 11000 As:=by
 refine bT aB func31 YL U rfl ?_;conv=>whnf
 refine K4 r (wZ r O (Heap.le_refl g) j) (λv C I e s J K q a=>?_);refine a.elim λz a=>a.elim λx a=>a.elim λB a=>a.elim λu a=>a.elim λy a=>a.elim λQ a=>a.elim λA a=>?_;have c:=a.1;subst c;have d:=a.2.1;conv=>whnf
 refine bB s O (λS T V W f=>?_);conv=>whnf
 apply aD<;>intro h;all_goals conv=>whnf
 ·refine K0 r O (xe r f O O e q d) (λv D M o t N P a=>?_);refine As.elim a λH G w L F d2 R c i m=>?_;subst c;conv=>whnf
  exact⟨_,_,rfl,o,t.free,O,O,_,_,rfl,i,m⟩
 exact⟨_,_,rfl,e,f.free,O,O,_,_,rfl,d.Ek.le (aQ _ _),d.Qh⟩
theorem lN.XV {g0 g:Heap} {a:Nat} {vb:Value} {j q:Int} {K:Heap->Prop} {b off:Nat} {pre x post y:List Value} {t:TypeId} (h0:g0.le g) (r:bz g a vb q) (C:bz g0 a vb j) (u:j<=q) (d:since g0 g b=some (.cells (pre++x++post).toArray t (0,0))) (s:off=pre.length) (h:y.length=x.length) (w:∀ v∈x,∃ z,v=.int .i64 z) (A:∀ v∈y,∃ z,v=.int .i64 z/\cH z)
  (p:∀ c,g0.le c->bz c a vb q->One (since g0 g) (since g0 c)->K (cN c a vb q)):St (cN g a vb q) b off y K:=by
 obtain⟨f,e⟩:=dK d;have B:a≠b:=λm=>by have:=r.free;rw[m,e]at this;cases this
 have i:=Heap.aR (o:=Obj.cells (pre++y++post).toArray t (0,0)) h0 f;refine gS r.free e (by simp only[List.length_append];omega) (vu s h) (p _ i (C.to i (by simp[Heap.set,B,r.free]) u) ?_);rw[fk f];exact JN d h w A
theorem K5 {P:Program} {f:FuncId} {args:List Value} {g:Heap} {b:Nat} {vb:Value} {p:Int} {x:Value} {K:Value->Heap->Prop} {E:List PanicEntry->Heap->Prop} (r:bz g b vb p) (d:Pure P f args g x) (e:K x (cN g b vb p)):Go.Vc.fE P f args (cN g b vb p) K E :=
 Dd (R:=λv c=>v=x/\c=g) r (bI.mono d λv h a=>⟨by rw[a.2];exact Heap.le_refl _,a⟩) λv c _ _ a=>by
  rw[a.1,a.2];exact e
theorem Cm {g0 g:Heap} {b off n c:Nat} {l:List Int} (j:cR (since g0 g) (.slice (some ⟨b,off,none⟩) n c) l) (m:Jx (since g0 g)) {i:Nat} (e:i < l.length):∃ pre w post t,since g0 g b=some (.cells (pre++[Value.int .i64 w]++post).toArray t (0,0))/\pre.length=off+i*1:=by
 obtain⟨q,y,z,p,o,t4,a,u,s,d,h,v,f⟩:=lO j m O e;simp only[Option.some.injEq,Addr.mk.injEq,and_true]at a;obtain⟨rfl,rfl⟩:=a;obtain⟨rfl,x⟩:=f;exact⟨p,_,o,t4,d,h⟩
theorem JO {P:Program} {f:FuncId} {args:List Value} {h:Heap} {p:Prop} (a:Pure P f args h (tf p)) (b:p):Pure P f args h (.bool true):=by rw[ei b]at a;exact a
theorem JP {P:Program} {f:FuncId} {args:List Value} {h:Heap} {p:Prop} (a:Pure P f args h (tf p)) (b:¬p):Pure P f args h (.bool false):=by rw[cS b]at a;exact a
theorem Qi {x y z:Int}:∀ v∈[Value.int .i64 x,.int .i64 y,.int .i64 z],∃ w,v=.int .i64 w:=λv a=>by
 simp only[List.mem_cons,List.not_mem_nil,or_false]at a;rcases a with rfl|rfl|rfl<;>exact⟨_,rfl⟩
theorem M6 {x y z:Int} (b:cH x) (c:cH y) (d:cH z):∀ v∈[Value.int .i64 x,.int .i64 y,.int .i64 z],∃ w,v=.int .i64 w/\cH w:=λv a=>by
 simp only[List.mem_cons,List.not_mem_nil,or_false]at a;rcases a with rfl|rfl|rfl
 ·exact⟨_,rfl,b⟩
 ·exact⟨_,rfl,c⟩
 exact⟨_,rfl,d⟩
theorem Cn {o:Heap} {L:Nat} {vb:Value} {p:Int} (r:bz o L vb p) (hp:p<=20000000) (hB:KV o) :
  Dr prog 14 [.pointer (some ⟨L,0,none⟩)] o L vb p 11000 NQ:=by
 refine bT aB func14 G14 U rfl ?_;conv=>whnf
 refine K4 r (wZ r O (Heap.le_refl o) hB) (λB D q1 q r1 Vg Vh I a=>?_);refine a.elim λcp a=>a.elim λcc a=>a.elim λC a=>a.elim λbm a=>a.elim λcm a=>a.elim λrecs a=>a.elim λA a=>?_;have g:=a.1;subst g;have u:=a.2.1;clear a;have MM:=u.num;have hcn:=u.ok.1;have vL:=u.ok.2.1;conv=>whnf
 refine bB r1 O (λk k0 k1 k2 r2=>?_);have T:k.toNat < A.length:=by omega
 have f:=u.row.at T;obtain⟨Ra,M,Q,_⟩:=f;have H:=u.mid k.toNat Ra T;have Ir:decide (k.toNat < A.length)=true:=by simp[T]
 rw[Ir]at H;have hw:=H.wh rfl;obtain⟨⟨VT,M3⟩,PS,KG,af,bc,kc,bs,ks,kv,aa,⟨NL,XW⟩,JD⟩:=hw;have S:=H.head;clear H;have hex:=Q.ex;have F:=Q.VE;rw[aa]at hex M F;clear aa Q Ir;generalize A[k.toNat]=s at VT M3 PS KG JD S hex M F;obtain⟨a',c',s',k',e',i1,i2,i3,i4,⟨az,an⟩,rc,rs,rk,_⟩:=hex;simp only[List.cons.injEq,and_true,true_and]at e';obtain⟨rfl,rfl,rfl,rfl⟩:=e';have f:=az.form;obtain⟨ap,ac,rfl⟩:=f;have Qe:∃ p n ab,kv=Value.slice p n ab:=by
  rcases JD with ⟨rfl,_⟩|⟨bk,rfl,_⟩
  ·exact⟨_,_,_,rfl⟩
  exact⟨_,_,_,rfl⟩
 obtain⟨pk,nk,ck,rfl⟩:=Qe;have we:=S.2.2.2.2.1;have Gk:0<=s.locals:=by have:=S.2.2.2.2.2;omega
 have t:=aQ o D;have e:dQ D bm (0+k.toNat*8) 8=some _:=bG t M;have j:=aM e (i:=6) rfl;have m:=aM e (i:=4) rfl;have h:=aM e (i:=5) rfl;conv=>whnf
 refine ay ?_;conv=>whnf
 refine ptr ?_;conv=>whnf
 refine ld (aW (aX r2.free) h) ?_;conv=>whnf
 refine bB r2 O (λK a0 a1 a2 r3=>?_);have vX:K.toNat < s.code.length:=by omega
 have JI:K.toNat < s.aT.length:=by omega
 have f:=lO rc I O vX;obtain⟨b1,o1,Wq,VU,K2,t1,yc,hf1,vW,VZ,Aq,Ji,HU⟩:=f;simp only[Option.some.injEq,Addr.mk.injEq,and_true]at yc;obtain⟨rfl,rfl⟩:=yc;obtain⟨rfl,j1,j2,j3⟩:=HU;have f:=lO rs I O JI;obtain⟨b2,o2,Nt,VV,CY,t2,BM,hf2,oU,uD,JJ,PC,Lr⟩:=f;simp only[Option.some.injEq,Addr.mk.injEq,and_true]at BM;obtain⟨rfl,rfl⟩:=BM;obtain⟨sv1,sv2,rfl,V,M5⟩:=Lr;have f:=V.len;obtain⟨Xe,Xf,rfl,_,_⟩:=f;have f:=M5.len;obtain⟨_,_,rfl,_,_⟩:=f;have V0:=KG _ (List.getElem_mem JI);have NP:s7 (since o D) (since o D):=s7.of_le (Heap.le_refl _);conv=>whnf
 refine bB r3 O (λag x0 x1 x2 c=>?_);conv=>whnf
 apply aD<;>intro c0;all_goals conv=>whnf
 ·refine K0 r O (xe r c O O q I u) (λB g3 q3 l3 r3 q30 q31 a=>?_);refine NQ.elim (As.toD a) λp2 n2 c2 q2 m2 d2 u' g hA2=>?_;subst g;conv=>whnf
  exact⟨_,_,rfl,l3,r3.free,O,O,_,_,rfl,hA2⟩
 apply aD<;>intro c1;all_goals conv=>whnf
 ·skip
  refine ay ?_;conv=>whnf
  refine ptr ?_;conv=>whnf
  refine ld (aW (aX c.free) j) ?_;conv=>whnf
  refine Dd c (iB D) (λB E b d R=>?_);refine R.elim λb1 R=>R.elim λb2 g=>?_;subst g;have lm:=bE o b;conv=>whnf
  refine ay ?_;conv=>whnf
  refine ptr ?_;conv=>whnf
  refine lN.VS (bm:=bm) (Heap.le_trans q b) d r O (lm _ _ uD) XW (by rw[JJ]) (fO _ _ _) (fO _ _ _) (λN x y J P _=>?_);conv=>whnf
  refine((u.aJ b).NO (J.yH bm) P).elim λz w=>?_;exact⟨_,_,rfl,x,y.free,O,O,_,z,rfl,w.le (aQ _ _)⟩
 apply aD<;>intro c2;all_goals conv=>whnf
 ·skip
  repeat' ((first|apply And.intro|refine ay ?_|refine ptr ?_|refine ld (aW (aX d.free) (aW b j)) ?_|refine ld (aW (aX d.free) (aW b m)) ?_|refine ld (aW (aX d.free) (aW b h)) ?_|refine ld (aW (aX c.free) j) ?_|refine ld (aW (aX c.free) m) ?_|refine ld (aW (aX c.free) h) ?_|refine dh (bG (aX c.free) e) ?_|refine dh (bG (aX d.free) (bG b e)) ?_|(refine fq c (vm C.length s.locals c O q O O) (λB E q6 b d VN VO a=>?_);refine a.elim λtv a=>a.elim λp5 a=>a.elim λn5 a=>a.elim λc5 a=>a.elim λp6 a=>a.elim λn6 a=>a.elim λc6 a=>a.elim λl5 a=>a.elim λl6' a=>?_;have g:=a.1;subst g;have lm:=bE o b)|exact trivial)<;>conv=>whnf)
  all_goals
   refine lN.VS (bm:=bm) (Heap.le_trans q b) d r O (lm _ _ uD) XW (by rw[JJ]) a.2.1 a.2.2 (λN x y J P _=>?_);conv=>whnf
   refine((u.aJ b).NO (J.yH bm) P).elim λz w=>?_;exact⟨_,_,rfl,x,y.free,O,O,_,z,rfl,w.le (aQ _ _)⟩
 apply aD<;>intro c3;all_goals conv=>whnf
 ·have G:=aM (bG t PC) (i:=0) rfl;have DZ:=aM (bG t PC) (i:=1) rfl;cases W:s.aT[K.toNat].told
  ·rw[W]at G;repeat' ((first|apply And.intro|refine ay ?_|refine ptr ?_|refine ld (aW (aX d.free) (aW b j)) ?_|refine ld (aW (aX d.free) (aW b m)) ?_|refine ld (aW (aX d.free) (aW b h)) ?_|refine ld (aW (aX c.free) j) ?_|refine ld (aW (aX c.free) m) ?_|refine ld (aW (aX c.free) h) ?_|refine dh (bG (aX c.free) e) ?_|refine dh (bG (aX d.free) (bG b e)) ?_|refine ld (aW (aX c.free) G) ?_|exact trivial)<;>conv=>whnf)
   exact⟨_,_,rfl,q,c.free,O,O,_,_,rfl,u.Ek.le (aQ _ _)⟩
  rw[W]at G;have hln:=V0 W;repeat' ((first|apply And.intro|refine ay ?_|refine ptr ?_|refine ld (aW (aX d.free) (aW b j)) ?_|refine ld (aW (aX d.free) (aW b m)) ?_|refine ld (aW (aX d.free) (aW b h)) ?_|refine ld (aW (aX c.free) j) ?_|refine ld (aW (aX c.free) m) ?_|refine ld (aW (aX c.free) h) ?_|refine dh (bG (aX c.free) e) ?_|refine dh (bG (aX d.free) (bG b e)) ?_|refine ld (aW (aX c.free) G) ?_|exact trivial)<;>conv=>whnf)
  apply aD<;>intro c5;all_goals conv=>whnf
  ·have f:=V.get (i:=0) O;obtain⟨b3,o3,_,rfl,_,_⟩:=f;repeat' ((first|apply And.intro|refine ay ?_|refine ptr ?_|refine ld (aW (aX d.free) (aW b j)) ?_|refine ld (aW (aX d.free) (aW b m)) ?_|refine ld (aW (aX d.free) (aW b h)) ?_|refine ld (aW (aX c.free) j) ?_|refine ld (aW (aX c.free) m) ?_|refine ld (aW (aX c.free) h) ?_|refine dh (bG (aX c.free) e) ?_|refine dh (bG (aX d.free) (bG b e)) ?_|refine ld (aW (aX c.free) DZ) ?_|refine bB c O (λad y0 y1 y2 r5=>?_)|(refine fq r5 (oH C.length r5 O O) (λB E q6 b d VN VO a=>?_);obtain⟨rfl,ae,rfl,z0,z1⟩:=a)|exact trivial)<;>conv=>whnf)
   all_goals
    refine(Cm V I (i:=ad.toNat) O).elim λaap v=>v.elim λw4 v=>v.elim λXX v=>v.elim λt4 v=>?_;refine lN.XV q d r O v.1 (by rw[v.2,Nat.mul_one]) rfl (λB g=>⟨w4,List.mem_singleton.1 g⟩) (λB g=>⟨ae,List.mem_singleton.1 g,by unfold cH;omega⟩) (λN x y one=>?_);conv=>whnf
    refine(Dm one u.Ek).elim λz w=>?_;exact⟨_,_,rfl,x,y.free,O,O,_,z,rfl,w.le (aQ _ _)⟩
  exact⟨_,_,rfl,q,c.free,O,O,_,_,rfl,u.Ek.le (aQ _ _)⟩
 apply aD<;>intro c4;all_goals conv=>whnf
 ·skip
  repeat' ((first|apply And.intro|refine ay ?_|refine ptr ?_|refine ld (aW (aX d.free) (aW b j)) ?_|refine ld (aW (aX d.free) (aW b m)) ?_|refine ld (aW (aX d.free) (aW b h)) ?_|refine ld (aW (aX c.free) j) ?_|refine ld (aW (aX c.free) m) ?_|refine ld (aW (aX c.free) h) ?_|refine dh (bG (aX c.free) e) ?_|refine dh (bG (aX d.free) (bG b e)) ?_|(refine fq c (z8 _ _ ⟨C,A⟩ s c O (u.Ek.le t) (F.le t) u.ok we (by show A.length<=100;omega)) (λB E q6 b d VN VO a=>?_);refine a.elim λkk a=>a.elim λX a=>a.elim λY a=>?_;have g:=a.1;subst g)|(by_cases hI:ej ⟨C,A⟩ s ⟨kk,X,Y⟩<;>first|refine K5 d (JO (tH _ _ ⟨C,A⟩ s ⟨kk,X,Y⟩ E ((u.Ek.le t).le b) ((F.le t).le b) u.ok (by simp only;unfold cH;omega) Gk) hI) ?_|refine K5 d (JP (tH _ _ ⟨C,A⟩ s ⟨kk,X,Y⟩ E ((u.Ek.le t).le b) ((F.le t).le b) u.ok (by simp only;unfold cH;omega) Gk) hI) ?_)|exact trivial)<;>conv=>whnf)
  all_goals first
   | exact⟨_,_,rfl,Heap.le_trans q b,d.free,O,O,_,_,rfl,(u.Ek.le (aQ _ _)).le b⟩
   | (
    refine lN.XV (Heap.le_trans q b) d r O (bE o b _ _ VZ) (by rw[Aq]) rfl Qi (M6 (by unfold cH;omega) (by unfold cH;omega) (by unfold cH;omega)) (λN x y one=>?_);conv=>whnf
    refine(Dm one (u.aJ b).Ek).elim λz w=>?_;exact⟨_,_,rfl,x,y.free,O,O,_,z,rfl,w.le (aQ _ _)⟩)
 exact⟨_,_,rfl,q,c.free,O,O,_,_,rfl,u.Ek.le (aQ _ _)⟩
theorem HB (v:Value) (n:Nat) (h:Heap) (b:Bytes h v n) (o:n<=1000000000000000) :
  bI prog 11 [v] h λr h'=>∃ a vb,r=.pointer (some ⟨a,0,none⟩)/\h'=cN h a vb 0/\bz h a vb 0:=by
 obtain⟨p,d,rfl,g,b⟩:=b;refine bT aB func11 Yu U rfl ?_;conv=>whnf
 apply aD<;>intro f;all_goals conv=>whnf
 ·refine ay ?_;conv=>whnf
  refine new λa c=>?_;conv=>whnf
  exact⟨a,_,rfl,rfl,c,⟨2000,⟨p,d,rfl,O,.inr (by
   rcases b with b|⟨e,j,rfl,b⟩
   ·omega
   exact⟨e,j,rfl,λi m=>b i O⟩)⟩,O⟩,O⟩
 refine new λa c=>?_;conv=>whnf
 exact⟨a,_,rfl,rfl,c,⟨n,⟨p,d,rfl,g,b⟩,O⟩,O⟩
theorem vz {g:Heap} {a:Nat} {vb:Value} {p:Int} (r:bz g a vb p) (e:p<=90000000) :
  Dr prog 16 [.pointer (some ⟨a,0,none⟩)] g a vb p 1 λb v=>b=g/\∃ x:Int,v=.int .i64 x/\0<=x/\x<=200:=by
 refine bT aB func16 Yx U rfl ?_;conv=>whnf
 refine bB r O (λx f h i d=>?_);have c:x=0\/x=1\/x=2\/x=3\/x=4\/x=5\/x=6\/x=7\/x=8:=by omega
 rcases c with rfl|rfl|rfl|rfl|rfl|rfl|rfl|rfl|rfl;all_goals
  conv=>whnf
  refine ay ?_;conv=>whnf
  exact⟨_,_,rfl,Heap.le_refl g,d.free,O,O,rfl,_,rfl,O,O⟩
abbrev xg (n:Nat):Prop:=n<=1048576
theorem bW.row {sz:Nat} {c:Type} {f:c->List Value} {Q:Heap->List Value->c->Prop} {h:Heap} {v:Value} {l:List c} {B:List Nat} (b:bW sz h v (l.map f) B) (y:l.length<=140737488351232) (C:∀ a∈l,Q h (f a) a):Row sz Q h v l:=by
 obtain⟨o,b⟩:=b;rcases b with ⟨rfl,z,_⟩|⟨p,q,rest,G,rfl,t,d,g,_⟩
 ·have:l=[]:=by simpa using z
  subst this;exact⟨Z,none,0,rfl,Z,.inl rfl⟩
 refine⟨y,_,q,Z,by simpa using t,.inr ⟨p,0,rfl,λi x e=>?_⟩⟩;have j:x∈l:=List.mem_of_getElem? e;obtain⟨u,w⟩:=List.getElem?_eq_some_iff.1 e;refine⟨f x,?_,C x j⟩;have m:l.map f=(l.take i).map f++f x::(l.drop (i+1)).map f:=by
  rw[<-w,<-List.map_cons,<-List.map_append,<-List.drop_eq_getElem_cons u,List.take_append_drop]
 have A:((l.take i).map f).flatten.length=i*sz:=by
  rw[bQ (sz:=sz)]
  ·rw[List.length_map,List.length_take,Nat.min_eq_left O]
  intro F E;exact o F (by rw[m];exact List.mem_append.2 (.inl E))
 have D:(f x).length=sz:=o _ (List.mem_map_of_mem j);rw[m]at d g;have:=bK d sz (0+i*sz) (by
  simp only[List.flatten_append,List.flatten_cons,List.length_append]at g ⊢;omega)
 rw[this];congr 1
 have s:((List.map f (List.take i l)++f x::List.map f (List.drop (i+1) l)).flatten++rest)=(List.map f (List.take i l)).flatten++(f x++((List.map f (List.drop (i+1) l)).flatten++rest)):=by simp
 rw[s,Nat.zero_add,<-A,List.drop_left,<-D,List.take_left]
theorem Rows.V1 {c:Type} {R:Heap->List Value->c->List Nat->Prop} {h:Heap} {xs:List (List Value)} {l:List c} {B:List Nat} (b:Rows R h xs l B):∀ i (a:i < l.length),∃ d:i < xs.length,∃ C,R h xs[i] l[i] C:=λi a=>⟨by rw[b.len];exact a,b.mem i a _⟩
theorem dR.Qj {d:Type} {R:Heap->List Value->d->List Nat->Prop} {Q:Heap->List Value->d->Prop} {sz:Nat} {h:Heap} {v:Value} {l:List d} {B:List Nat} (c:dR R sz h v l B) (M:l.length<=1000000\/l.length<=140737488351232) (E:∀ x a C,a∈l->R h x a C->Q h x a):Row sz Q h v l:=by
 obtain⟨b,J,K,⟨m,c⟩,j,_⟩:=c;have g:=j.len;rcases c with ⟨rfl,A,_⟩|⟨o,p,rest,N,rfl,L,e,f,_⟩
 ·subst A;have:l=[]:=List.eq_nil_of_length_eq_zero (by simpa using g.symm);subst this;exact⟨Z,none,0,rfl,Z,.inl rfl⟩
 refine⟨O,_,p,by rw[g],O,.inr ⟨o,0,rfl,λi x u=>?_⟩⟩;obtain⟨w,y⟩:=List.getElem?_eq_some_iff.1 u;obtain⟨z,C,t⟩:=j.V1 i w;have G:b[i].length=sz:=m _ (List.getElem_mem _);refine⟨b[i],?_,by subst y;exact E _ _ C (List.getElem_mem _) t⟩;have D:(b.take i).flatten.length=i*sz:=by
  rw[bQ (sz:=sz)]
  ·rw[List.length_take,Nat.min_eq_left O]
  intro I H;exact m I (List.mem_of_mem_take H)
 have F:b.flatten++rest=(b.take i).flatten++(b[i]++((b.drop (i+1)).flatten++rest)):=by
  have q:b=b.take i++b[i]::b.drop (i+1):=by rw[<-List.drop_eq_getElem_cons z,List.take_append_drop]
  have s:=congrArg List.flatten q;rw[s];simp only[List.flatten_append,List.flatten_cons,List.append_assoc]
 rw[F]at e f;have:=bK e sz (0+i*sz) (by
  simp only[List.length_append]at f ⊢;omega)
 rw[this,Nat.zero_add,<-D,List.drop_left,<-G,List.take_left]
def vB (_:Heap) (vs:List Value) (x:Int):Prop:=vs=[.int .i64 x]
def EI (_:Heap) (vs:List Value) (x:Vl):Prop:=vs=[.bool x.ref,.int .i64 x.n]
def AL (h:Heap) (vs:List Value) (o:Ob):Prop:=∃ v,vs=[.int .i64 o.cls,v]/\Row 2 EI h v o.bp
def vC (h:Heap) (vs:List Value) (f:bL):Prop:=∃ a b,vs=[.int .i64 f.aC,.int .i64 f.pc,a,b]/\Row 2 EI h a f.locals/\Row 2 EI h b f.stack
def sG (h:Heap) (mc:List Value) (M:bH):Prop:=∃ b a c,mc=aE b a c M/\Row 2 AL h b M.objs/\Row 4 vC h a M.au/\Row 1 vB h c M.said
theorem Es {h:Heap} {v:Value} {l:List Int} {B:List Nat} (b:dI h v l B) (a:l.length<=140737488351232):Row 1 vB h v l:=bW.row b a λ_ _=>rfl
theorem sH {h:Heap} {v:Value} {l:List Vl} {B:List Nat} (b:bR h v l B) (a:l.length<=140737488351232):Row 2 EI h v l:=bW.row b a λ_ _=>rfl
def Dn (o:Ob):Prop:=xg o.bp.length
def Dp (f:bL):Prop:=xg f.locals.length/\xg f.stack.length
structure Dq (M:bH):Prop where
 objs:xg M.objs.length
 ob:∀ o∈M.objs,Dn o
 au:xg M.au.length
 fr:∀ f∈M.au,Dp f
 said:xg M.said.length
theorem Small.JQ {M:bH} (h:Small M):Dq M:=by
 obtain⟨e,g,i,a,b⟩:=h;refine⟨by unfold xg;omega,λo d=>by have:=a o d;unfold Dn xg;omega,by unfold xg;omega,λf c=>by have:=b f c;unfold Dp xg;omega,by unfold xg;omega⟩
theorem eX.Ds {h:Heap} {mc:List Value} {M:bH} {B:List Nat} (j:eX h mc M B) (a:Dq M):sG h mc M:=by
 obtain⟨u,t,w,_,_,_,e,f,g,i,_⟩:=j;refine⟨u,t,w,e,f.Qj (.inr (by have:=a.objs;omega)) λx b C d c=>?_,g.Qj (.inr (by have:=a.au;omega)) λx b C d c=>?_,Es i (by have:=a.said;omega)⟩
 ·obtain⟨v,e,o⟩:=c;exact⟨v,e,sH o (by have:=a.ob b d;unfold Dn at this;omega)⟩
 obtain⟨q,s,_,_,e,m,p,_⟩:=c;have:=a.fr b d;unfold Dp at this;exact⟨q,s,e,sH m O,sH p O⟩
theorem vD (v w:Value) (l:List Int) (h:Heap) (b:Row 1 vB h v l) (c:Row 1 vB h w l):Pure prog 10 [v,w] h (.bool true):=by
 have f:=b.len;obtain⟨u,d,rfl,A,D⟩:=f;have f:=c.len;obtain⟨x,g,rfl,B,_⟩:=f;refine fD aB func10 Yt U rfl ?_;conv=>whnf
 refine cy ?_;conv=>whnf
 refine eu [0,1,5] [] (λi:Nat=>i<=l.length) (λi=>l.length-i)
  (λi=>([.v (.slice u l.length d),.v (.slice x l.length g),.v (.int .i64 i)],[],h)) 0 (Nat.zero_le _) rfl ?_
 intro i C;conv=>whnf
 apply aD<;>intro q;all_goals conv=>whnf
 ·have a:i < l.length:=by omega
  have e:=b.get a;obtain⟨y,E,G,s,m,o⟩:=e;have e:=c.get a;obtain⟨z,F,H,t,d1,d2⟩:=e;have p:=o;have j:=d2;obtain rfl:=p;obtain rfl:=j;repeat' ((first|refine aP s ?_|refine aP t ?_|refine ld (aM m (i:=0) rfl) ?_|refine ld (aM d1 (i:=0) rfl) ?_|refine av ?_|refine ay ?_)<;>conv=>whnf)
  refine uq rfl ?_;conv=>whnf
  refine av ?_;conv=>whnf
  exact cT (i+1) O O rfl
 exact⟨rfl,rfl⟩
theorem Et {P:Program} {t:TypeId} {f0 f1:Field} {f:IntKind} (a:Bool) (c:Int) (b:P.underlying t=some (.struct #[f0,f1])) (i:P.stoodInHeld t=false) (o:f0.name≠ "_") (p:f1.name≠ "_") (j:P.underlying f0.type=some .bool) (m:P.underlying f1.type=some (.int f))
  (q:∀ w:World,(part f0.type #[.bool a,.int .i64 c] f0.offset).run P w=.ok (.bool a) w) (e:∀ w:World,(part f1.type #[.bool a,.int .i64 c] f1.offset).run P w=.ok (.int .i64 c) w) (w:World) :
  (Go.binOp .neq t (.agg #[.bool a,.int .i64 c]) (.agg #[.bool a,.int .i64 c])).run P w=.ok (.bool false) w:=by
 have d:P.fieldsOf t = #[f0,f1]:=by simp[Program.fieldsOf,b]
 have g:(Op.equalIn (9999+1) t (.agg #[.bool a,.int .i64 c]) (.agg #[.bool a,.int .i64 c])).run P w=.ok true w:=by
  rw[run_equalIn_struct w 9999 t _ _ (by rw[d];exact b) i,d];simp only[Op.eqFields,o,p,ne_eq,not_false_eq_true,if_true,Sem.run_bind,q,e,Result.andThen_ok];rw[show(9999:Nat)=9998+1 from rfl,run_equalIn_bool' w 9998 f0.type a a j];simp only[Result.andThen_ok,beq_self_eq_true,Bool.not_true,Bool.false_eq_true,if_false,Sem.run_bind,e];rw[run_equalIn_int w 9998 f1.type .i64 f c c m];simp
 have h:(Op.equal t (.agg #[.bool a,.int .i64 c]) (.agg #[.bool a,.int .i64 c])).run P w=.ok true w:=g;rw[show Go.binOp .neq t (.agg #[.bool a,.int .i64 c]) (.agg #[.bool a,.int .i64 c])=(do pure (.bool (!(<-Op.equal t (.agg #[.bool a,.int .i64 c]) (.agg #[.bool a,.int .i64 c])))))from rfl];simp only[Sem.run_bind,h,Result.andThen_ok,Sem.run_pure];rfl
theorem yA (a:Bool) (c:Int) (w:World):(Go.binOp .neq 31 (.agg #[.bool a,.int .i64 c]) (.agg #[.bool a,.int .i64 c])).run prog w=.ok (.bool false) w:=by
 refine Et a c rfl ?_ ?_ ?_ rfl rfl ?_ ?_ w
 ·kernel_rfl
 ·decide
 ·decide
 ·intro w;rfl
 intro w;rfl
theorem Dt {P:Program} {p:Option Nat} {f:BinOp} {t u:TypeId} {x y:Operand} {ty:TypeId} {B:String} {o:Array Edge} {q:Option (Nat × Bool)} {e:Env} {g:Value->Prop} {a b r:Value}
  (h:e.get x=.v a) (i:e.get y=.v b) (s:∀ w:World,(eqGuard f t x y a b).run P w=.ok () w) (z:∀ w:World,(Go.binOp f t a b).run P w=.ok r w) (A:g r):Ic P ⟨p,.binOp f t x y u,ty,B,o,q⟩ e g:=by
 refine Iq (v:=r) ?_ ?_ A
 ·intro C j;simp only[Op.operands,List.mem_toArray,List.mem_cons,List.not_mem_nil,or_false]at j;rcases j with rfl|rfl
  ·exact⟨a,h⟩
  exact⟨b,i⟩
 intro D m w;have c:=m x (by simp[Op.operands]);have d:=m y (by simp[Op.operands]);rw[h]at c;rw[i]at d;injection c with c
 injection d with d
 simp only[execOp,<-c,<-d];simp only[Sem.run_bind,s,z,Result.andThen_ok,Sem.run_pure]
theorem rE (v w:Value) (l:List Vl) (h:Heap) (b:Row 2 EI h v l) (c:Row 2 EI h w l):Pure prog 19 [v,w] h (.bool true):=by
 have f:=b.len;obtain⟨u,d,rfl,A,D⟩:=f;have f:=c.len;obtain⟨x,g,rfl,B,_⟩:=f;refine fD aB func19 Yz U rfl ?_;conv=>whnf
 refine cy ?_;conv=>whnf
 refine eu [0,1,5] [] (λi:Nat=>i<=l.length) (λi=>l.length-i)
  (λi=>([.v (.slice u l.length d),.v (.slice x l.length g),.v (.int .i64 i)],[],h)) 0 (Nat.zero_le _) rfl ?_
 intro i C;conv=>whnf
 apply aD<;>intro q;all_goals conv=>whnf
 ·have a:i < l.length:=by omega
  have e:=b.get a;obtain⟨y,E,G,s,m,o⟩:=e;have e:=c.get a;obtain⟨z,F,H,t,d1,d2⟩:=e;have p:=o;have j:=d2;obtain rfl:=p;obtain rfl:=j;repeat' ((first|refine aP s ?_|refine aP t ?_|refine dh m ?_|refine dh d1 ?_|refine av ?_|refine ay ?_)<;>conv=>whnf)
  refine Dt rfl rfl (λw=>by simp[eqGuard]) (λw=>yA _ _ w) ?_;conv=>whnf
  refine av ?_;conv=>whnf
  exact cT (i+1) O O rfl
 exact⟨rfl,rfl⟩
theorem At (v w:Value) (l:List Ob) (h:Heap) (d:Row 2 AL h v l) (j:Row 2 AL h w l):Pure prog 18 [v,w] h (.bool true):=by
 have f:=d.len;obtain⟨t,m,rfl,z,C⟩:=f;have f:=j.len;obtain⟨u,o,rfl,A,_⟩:=f;refine fD aB func18 Yy U rfl ?_;conv=>whnf
 refine cy ?_;conv=>whnf
 refine eu [0,1,5] [] (λi:Nat=>i<=l.length) (λi=>l.length-i)
  (λi=>([.v (.slice t l.length m),.v (.slice u l.length o),.v (.int .i64 i)],[],h)) 0 (Nat.zero_le _) rfl ?_
 intro i B;conv=>whnf
 apply aD<;>intro g;all_goals conv=>whnf
 ·have c:i < l.length:=by omega
  have e:=d.get c;obtain⟨x,D,G,q,a,p⟩:=e;have e:=j.get c;obtain⟨y,E,I,s,d1,d2⟩:=e;obtain⟨F,rfl,b⟩:=p;obtain⟨H,rfl,d3⟩:=d2;repeat' ((first|refine aP q ?_|refine aP s ?_|refine ld (aM a (i:=0) rfl) ?_|refine ld (aM d1 (i:=0) rfl) ?_|refine ld (aM a (i:=1) rfl) ?_|refine ld (aM d1 (i:=1) rfl) ?_|refine uq rfl ?_|refine dM (λg=>?_) (λg=>absurd g Z)|refine cq (λg=>absurd g Z) (λg=>?_)|refine aO (rE _ _ _ h b d3) ?_|refine ax (rE _ _ _ h b d3) ?_|refine av ?_|refine ay ?_|apply And.intro|exact trivial)<;>conv=>whnf)
  exact cT (i+1) O O rfl
 exact⟨rfl,rfl⟩
theorem nT (x y:List Value) (M:bH) (h:Heap) (B:sG h x M) (C:sG h y M):Pure prog 6 [.agg ⟨x⟩,.agg ⟨y⟩] h (.bool true):=by
 obtain⟨F,T,G,rfl,d,j,m⟩:=B;obtain⟨H,wf,I,rfl,o,p,q⟩:=C;have f:=j.len;obtain⟨D,s,rfl,L,Q⟩:=f;have f:=p.len;obtain⟨E,t,rfl,N,_⟩:=f;unfold aE;refine fD aB func6 F6 U rfl ?_;conv=>whnf
 repeat' ((first|refine uq rfl ?_|refine cy ?_|refine dM (λg=>?_) (λg=>absurd g Z)|refine cq (λg=>absurd g Z) (λg=>?_)|refine aO (At _ _ _ h d o) ?_|refine ax (At _ _ _ h d o) ?_|refine aO (vD _ _ _ h m q) ?_|refine ax (vD _ _ _ h m q) ?_|refine Dt rfl rfl (λw=>by simp[eqGuard]) (λw=>yA _ _ w) ?_|apply And.intro|exact trivial)<;>conv=>whnf)
 refine fI rfl rfl (λw=>by simp[eqGuard]) (λw=>yA _ _ w) ?_;conv=>whnf
 refine eu [2,3,5] [2,3] (λi:Nat=>i<=M.au.length) (λi=>M.au.length-i)
  (λi=>([.l 2 0,.l 3 0,.v (.int .i64 i)],[some (aE F (.slice D M.au.length s) G M),some (aE H (.slice E M.au.length t) I M)],h)) 0 (Nat.zero_le _) rfl ?_
 intro i P;unfold aE;conv=>whnf
 apply aD<;>intro g;all_goals conv=>whnf
 ·have c:i < M.au.length:=by omega
  have e:=j.get c;obtain⟨J,R,V,z,u,v⟩:=e;have e:=p.get c;obtain⟨K,S,W,A,d1,d2⟩:=e;obtain⟨X,Y,rfl,a,b⟩:=v;obtain⟨y1,y2,rfl,d3,d4⟩:=d2;have f:=a.len;obtain⟨_,_,rfl,_,_⟩:=f;have f:=b.len;obtain⟨_,_,rfl,_,_⟩:=f;have f:=d3.len;obtain⟨_,_,rfl,_,_⟩:=f;have f:=d4.len;obtain⟨_,_,rfl,_,_⟩:=f;repeat' ((first|refine aP z ?_|refine aP A ?_|refine dh u ?_|refine dh d1 ?_|refine uq rfl ?_|refine dM (λg=>?_) (λg=>absurd g Z)|refine cq (λg=>absurd g Z) (λg=>?_)|refine ax (rE _ _ _ h a d3) ?_|refine ax (rE _ _ _ h b d4) ?_|refine av ?_|refine ay ?_|apply And.intro|exact trivial)<;>conv=>whnf)
  exact cT (i+1) O O rfl
 exact⟨rfl,rfl⟩
theorem Au {h:Heap} {v:Value} {n:Nat} (b:Bytes h v n):∃ f:Heap,f.le h/\Bytes f v n/\KV f:=by
 obtain⟨u,g,rfl,j,b⟩:=b;by_cases i:n=0
 ·exact⟨λ_=>none,λc t a=>(nomatch a),⟨u,g,rfl,j,.inl i⟩,λc o w z a=>(nomatch a)⟩
 rcases b with b|⟨c,m,rfl,b⟩
 ·exact absurd b i
 refine⟨λx=>if x=c then h c else none,λx t a=>?_,⟨_,g,rfl,j,.inr ⟨c,m,rfl,λs q=>?_⟩⟩,λx o w z a=>?_⟩
 ·by_cases e:x=c
  ·simp only[e,if_true]at a ⊢;exact a
  simp only[e,if_false]at a;cases a
 ·obtain⟨y,d,p⟩:=b s q;refine⟨y,?_,p⟩;unfold rd at d ⊢;simp only[if_true];exact d
 by_cases e:x=c
 ·simp only[e,if_true]at a;obtain⟨y,d,_⟩:=b 0 O;simp only[rd,a]at d;exact⟨m+0,y,d⟩
 simp only[e,if_false]at a;cases a
theorem HC {P:Program} {f:FuncId} {args:List Value} {b g:Heap} {x:Value} (c:b.le g) (h:Pure P f args b x):Pure P f args g x:=by
 refine bI.mono (HA c h) λv p i=>?_;obtain⟨j,⟨rfl,rfl⟩,m,d,_⟩:=i;refine⟨rfl,funext λy=>?_⟩;cases e:j y with
 | some o=>rw[d y (.inl (by rw[e];simp)),e,c y o e]
 | none =>
  cases a:g y with
  | none=>rw[d y (.inr a),e]
  | some o=>rw[m y e (by rw[a];simp),a]
end Go.Proofs
