/- Part 1 of the lemmas on which the law rests: what functions of the program and of the reference do; no conditions but those that each lemma states. -/
import Derived.Test.YtclenamodemnpaaGreatProg
import Derived.Test.YtclenamodemnpaaGreatMf10
set_option linter.unusedSimpArgs false
set_option linter.unusedVariables false
namespace Go.Proofs
open Go.Vc Go.Proofs.Tryz
def Tryz.ab0:Fs:={L:=[5,7,9],LL:=[27,28,34,46,47],cr:=[(5,[2,0,1,3,4,5,6,7,8,9,10,11,12,13,14,15,16,17,18]),(6,[2,0,1,3,4,5])]}
theorem Tryz.ok6:aQ ab0 Tryz.f6 2=true:=by kernel_rfl
def Tryz.F22:Fs:={L:=[2,3,4]}
theorem Tryz.adE:aQ F22 Tryz.f22 2=true:=by kernel_rfl
def Tryz.F27:Fs:={L:=[2,3]}
theorem Tryz.adF:aQ F27 Tryz.f27 2=true:=by kernel_rfl
def Tryz.F56:Fs:={}
theorem Tryz.adG:aQ F56 Tryz.f56 2=true:=by kernel_rfl
def Tryz.F99:Fs:={L:=[2]}
theorem Tryz.adH:aQ F99 Tryz.f99 2=true:=by kernel_rfl
def Tryz.acZ:Fs:={L:=[2]}
theorem Tryz.ac0:aQ acZ Tryz.f100 2=true:=by kernel_rfl
def Tryz.ac1:Fs:={L:=[3],LL:=[7,11,15,24,29,37,43,49],cr:=[(1,[1,2,0,3,4,5,7,9,6,10,8,11,12,13,14,15,16,17,18,21,23,19,20,24,22,25,26,27,28,29,30,31,32,33,34,35,36,37,38,39,40,41,42,43,44,45,46,47,48])]}
theorem Tryz.ac2:aQ ac1 Tryz.f101 3=true:=by kernel_rfl
def Tryz.ac3:Fs:={L:=[2]}
theorem Tryz.ac4:aQ ac3 Tryz.f102 2=true:=by kernel_rfl
def Tryz.ac5:Fs:={L:=[6]}
theorem Tryz.ac6:aQ ac5 Tryz.f103 2=true:=by kernel_rfl
def Tryz.ac7:Fs:={}
theorem Tryz.ac8:aQ ac7 Tryz.f104 1=true:=by kernel_rfl
def Tryz.ac9:Fs:={}
theorem Tryz.ada:aQ ac9 Tryz.f105 1=true:=by kernel_rfl
def Tryz.adb:Fs:={}
theorem Tryz.ade:aQ adb Tryz.f106 1=true:=by kernel_rfl
def Tryz.adf:Fs:={}
theorem Tryz.adg:aQ adf Tryz.f107 1=true:=by kernel_rfl
def Tryz.adh:Fs:={}
theorem Tryz.adi:aQ adh Tryz.f108 1=true:=by kernel_rfl
def Tryz.adj:Fs:={}
theorem Tryz.adk:aQ adj Tryz.f109 2=true:=by kernel_rfl
def Tryz.adl:Fs:={}
theorem Tryz.adm:aQ adl Tryz.f110 1=true:=by kernel_rfl
def Tryz.acM:Fs:={L:=[6]}
theorem Tryz.acL:aQ acM Tryz.f111 2=true:=by kernel_rfl
def Tryz.adn:Fs:={L:=[1]}
theorem Tryz.ado:aQ adn Tryz.f112 1=true:=by kernel_rfl
def Tryz.adp:Fs:={}
theorem Tryz.adq:aQ adp Tryz.f113 3=true:=by kernel_rfl
def Tryz.adr:Fs:={L:=[3]}
theorem Tryz.ads:aQ adr Tryz.f114 3=true:=by kernel_rfl
def Tryz.adt:Fs:={L:=[3],LL:=[19,23,27],cr:=[(3,[0,1,2,3,4,5,8,9,6,7,10,11,12,13,14,15])]}
theorem Tryz.adu:aQ adt Tryz.f115 2=true:=by kernel_rfl
def Tryz.adv:Fs:={}
theorem Tryz.adw:aQ adv Tryz.f116 2=true:=by kernel_rfl
def Tryz.adx:Fs:={L:=[6]}
theorem Tryz.ady:aQ adx Tryz.f117 2=true:=by kernel_rfl
def Tryz.adz:Fs:={}
theorem Tryz.adA:aQ adz Tryz.f118 2=true:=by kernel_rfl
def Tryz.adB:Fs:={L:=[1]}
theorem Tryz.adC:aQ adB Tryz.f119 1=true:=by kernel_rfl
set_option maxRecDepth 100000
set_option maxHeartbeats 4000000
theorem acD {P:Program} {t:TypeId} {f0 f1:Field} {k':IntKind} (a a':Bool) (c c':Int) (h3:P.underlying t=some (.struct #[f0,f1])) (h4:P.stoodInHeld t=false) (rJ:f0.name≠ "_") (D2:f1.name≠ "_") (h5:P.underlying f0.type=some .bool) (h6:P.underlying f1.type=some (.int k'))
  (HO:∀(a:Bool) (c:Int) (w:World),(part f0.type #[.bool a,.int .i64 c] f0.offset).run P w=.ok (.bool a) w) (zD:∀(a:Bool) (c:Int) (w:World),(part f1.type #[.bool a,.int .i64 c] f1.offset).run P w=.ok (.int .i64 c) w) (w:World) :
  (Go.binOp .eql t (.agg #[.bool a,.int .i64 c]) (.agg #[.bool a',.int .i64 c'])).run P w=.ok (.bool (a==a'&&c==c')) w:=by
 have hf:P.fieldsOf t = #[f0,f1]:=by simp[Program.fieldsOf,h3]
 have e1:(Op.equalIn (9999+1) t (.agg #[.bool a,.int .i64 c]) (.agg #[.bool a',.int .i64 c'])).run P w=.ok (a==a'&&c==c') w:=by
  rw[run_equalIn_struct w 9999 t _ _ (by rw[hf];exact h3) h4,hf];simp only[Op.eqFields,rJ,D2,ne_eq,not_false_eq_true,if_true,Sem.run_bind,HO,zD,Result.andThen_ok];rw[show(9999:Nat)=9998+1 from rfl,run_equalIn_bool' w 9998 f0.type a a' h5];by_cases ha:a=a'
  ·subst ha;simp only[Result.andThen_ok,beq_self_eq_true,Bool.not_true,Bool.false_eq_true,if_false,Sem.run_bind,zD];rw[run_equalIn_int w 9998 f1.type .i64 k' c c' h6];by_cases hc:c=c'<;>simp[hc]
  ·have:(a==a')=false:=by simpa using ha
   simp[this]
 have e3:(Op.equal t (.agg #[.bool a,.int .i64 c]) (.agg #[.bool a',.int .i64 c'])).run P w=.ok (a==a'&&c==c') w:=e1;rw[show Go.binOp .eql t (.agg #[.bool a,.int .i64 c]) (.agg #[.bool a',.int .i64 c'])=(do pure (.bool (<-Op.equal t (.agg #[.bool a,.int .i64 c]) (.agg #[.bool a',.int .i64 c']))))from rfl];simp only[Sem.run_bind,e3,Result.andThen_ok,Sem.run_pure]
theorem acN (x y:Vl) (w:World):(Go.binOp .eql 33 (.agg #[.bool x.ref,.int .i64 x.n]) (.agg #[.bool y.ref,.int .i64 y.n])).run prog w=.ok (.bool (x.ref==y.ref&&x.n==y.n)) w:=by
 refine acD _ _ _ _ rfl ?_ ?_ ?_ rfl rfl ?_ ?_ w
 ·kernel_rfl
 ·decide
 ·decide
 ·intro a c w;rfl
 ·intro a c w;rfl
theorem acs (x:Vl):(x.ref==false&&x.n==0)=true↔x=cJ:=by
 obtain⟨r,n⟩:=x;cases r<;>simp[cJ]
theorem ObQ.le {h h':Heap} (hl:h.le h') {xs:List Value} {o:Ob} (hx:ObQ h xs o):ObQ h' xs o:=by
 obtain⟨v,e,hv⟩:=hx;exact⟨v,e,hv.le hl (λ_ _ hx=>hx)⟩
theorem abu.le {h h':Heap} (hl:h.le h') {xs:List Value} {f:bU} (hx:abu h xs f):abu h' xs f:=by
 obtain⟨v,w,e,hv,hw⟩:=hx;exact⟨v,w,e,hv.le hl (λ_ _ hx=>hx),hw.le hl (λ_ _ hx=>hx)⟩
theorem acb {P:Program} {f:FuncId} {args:List Value} {h:Heap} {K:Value->Heap->Prop} {E:List PanicEntry->Heap->Prop} {p:Prop} (k:Go.Vc.Pure P f args h (tf p)) (ht:p->K (.bool true) h) (hf:¬p->K (.bool false) h):Go.Vc.Call P f args h K E:=by
 by_cases hp:p
 ·rw[lW hp]at k;exact ay k (ht hp)
 ·rw[eN hp]at k;exact ay k (hf hp)
theorem acu {P:Program} {f:FuncId} {args:List Value} {h:Heap} {K:Value->Heap->Prop} {E:List PanicEntry->Heap->Prop} {p:Prop} (k:Go.Vc.Pure P f args h (tf p)) (ht:p->K (.bool true) h) (hf:¬p->K (.bool false) h):jA P f args h K E:=by
 by_cases hp:p
 ·rw[lW hp]at k;exact aT k (ht hp)
 ·rw[eN hp]at k;exact aT k (hf hp)
structure adD (v x:Value) (h' h:Heap):Prop where
 e:v=x
 k:h.le h'
theorem acd {P:Program} {f:FuncId} {args:List Value} {h:Heap} {S:nH} (hS:dn P S) {fn:Func} (hf:P.funcs[f]? = some fn) (F:Fs) {k:Nat} (ez:aQ F fn k=true) {x:Value} (hl:args.length=k) (hx:Goal P S F fn args h λo h'=>match o with
  | .ret v=>adD v x h' h
  | .lE _=>False):Go.Vc.Pure P f args h x:=by
 subst hl;unfold Go.Vc.Pure bI;refine(calls hS hf F ez hx).shrink λo h' hh=>?_;cases o with
 | ret v=>exact⟨h,hh.2,hh.1,rfl⟩
 | lE c=>exact hh.elim
theorem acv (M:bZ):aaG M↔(((M.fin=0\/M.fin=3)/\0 < M.ag.length/\M.out=cJ)\/(M.fin=1/\M.ag.length=0)\/(M.fin=2/\M.ag.length=0/\M.out.ref=true/\1<=M.out.n)):=by
 unfold aaG;have e1:M.ag≠[]↔0 < M.ag.length:=List.length_pos_iff.symm;have e2:M.ag=[]↔M.ag.length=0:=List.length_eq_zero_iff.symm;rw[e1,e2]
theorem acg {M:bZ} {r z:Bool} (hr:M.out.ref=r) (hz:(M.out.ref==false&&M.out.n==0)=z):aaG M↔(((M.fin=0\/M.fin=3)/\0 < M.ag.length/\z=true)\/(M.fin=1/\M.ag.length=0)\/(M.fin=2/\M.ag.length=0/\r=true/\1<=M.out.n)):=by
 rw[acv,<-acs,hz,hr]
theorem acE (vo vs:Value) (pf:Option Addr) (cf:Nat) (M:bZ) (h:Heap):Pure prog 119 [.agg ⟨aB vo (.slice pf M.ag.length cf) vs M⟩] h (tf (aaG M)):=by
 refine acd au func119 adB adC rfl ?_;unfold aB;have key:∀ b:Bool,(M.out.ref==false&&M.out.n==0)=b->∀ w:World,(Go.binOp .eql 33 (.agg #[.bool M.out.ref,.int .i64 M.out.n]) (.agg #[.bool false,.int .i64 0])).run prog w=.ok (.bool b) w:=λb U w=>by
  rw[<-U];exact acN M.out cJ w
 cases U:(M.out.ref==false&&M.out.n==0)<;>cases hr:M.out.ref
 all_goals
  have ab9:=key _ U;rw[hr]at ab9;conv=>whnf
  repeat' ((first|apply ax<;>intro _|apply aV<;>intro _|refine jd rfl rfl (λw=>by simp[eqGuard]) ab9 ?_)<;>conv=>whnf)
  all_goals first|exact⟨jQ ((acg hr U).2 (by simp only[Bool.true_eq_false,Bool.false_eq_true,and_true,and_false,true_and,false_and,or_false,false_or];omega)),Heap.le_refl h⟩|exact⟨iO (λhx=>by have:=(acg hr U).1 hx;simp only[Bool.true_eq_false,Bool.false_eq_true,and_true,and_false,true_and,false_and,or_false,false_or]at this;omega),Heap.le_refl h⟩|exact⟨lX ((acg hr U).trans (by simp only[Bool.true_eq_false,Bool.false_eq_true,and_true,and_false,true_and,false_and,or_false,false_or];omega)),Heap.le_refl h⟩
theorem ach {u:aU} {n:Nat} {f:bU} (hm:0<=f.ah/\f.ah < u.methods.length):EW u n f↔((0<=f.pc/\f.pc<=(br u f.ah).code.length)/\(f.locals.length:Int)=(br u f.ah).locals/\f.stack.length<=4/\(∀ v∈f.locals,tD n v)/\∀ v∈f.stack,tD n v):=⟨λh=>h.2,λh=>⟨hm,h⟩⟩
theorem acO {u:aU} {n:Nat} {f:bU} (hx:¬((0<=f.pc/\f.pc<=(br u f.ah).code.length)/\(f.locals.length:Int)=(br u f.ah).locals/\f.stack.length<=4)):¬EW u n f:=λh=>hx ⟨h.2.1,h.2.2.1,h.2.2.2.1⟩
def ObA (u:aU) (n i:Nat) (o:Ob):Prop:=RY u n o/\(i < 7->o.cls=1)
theorem acF (u:aU) (M:bZ):zC u M↔((0<=M.steps/\M.steps<=200)/\(7<=M.objs.length/\M.objs.length<=207)/\M.ag.length<=4/\M.said.length<=200)/\tD M.objs.length M.out/\(∀ i (hi:i < M.objs.length),ObA u M.objs.length i M.objs[i])/\(∀ f∈M.ag,EW u M.objs.length f)/\(∀ n∈M.said,isWord n=true)/\aaG M:=by
 have low:∀(hl:7<=M.objs.length) (k:Int) (h0:0 < k) (h1:k<=7),aF M.objs k=M.objs[(k-1).toNat]'(by omega):=λhl k h0 h1=>by
  unfold aF;rw[List.getD_eq_getElem?_getD,List.getElem?_eq_getElem (by omega)];rfl
 constructor
 ·intro h;refine⟨⟨h.steps,h.len,h.nf,h.pU⟩,h.out,λi hi=>⟨h.objs _ (List.getElem_mem hi),λh7=>?_⟩,h.jy,h.said,h.fin⟩;have:=h.low ((i:Int)+1) (by omega) (by omega);rw[low h.len.1 _ (by omega) (by omega)]at this;simp only[show((i:Int)+1-1).toNat=i by omega]at this;exact this
 ·rintro⟨⟨h1,h2,h3,h4⟩,h5,h6,h7,h8,h9⟩;refine⟨h1,h2,h3,h4,h5,λo ho=>?_,λk k0 k1=>?_,h7,h8,h9⟩
  ·obtain⟨i,hi,rfl⟩:=List.mem_iff_getElem.1 ho;exact(h6 i hi).1
  ·rw[low h2.1 k k0 k1];exact(h6 _ (by omega)).2 (by omega)
theorem take_one {α:Type} {l:List α} {i:Nat} {Q:α->Prop} (hi:i < l.length) (hj:∀ x∈l.take i,Q x) (hq:Q l[i]):∀ x∈l.take (i+1),Q x:=λx hx=>by
 rw[List.take_add_one,List.mem_append]at hx;rcases hx with hx|hx
 ·exact hj x hx
 ·rw[List.getElem?_eq_getElem hi]at hx;simp at hx;subst hx;exact hq
theorem acp (r:Bool) (k:Int) (n:Int) (h:Heap):Pure prog 100 [.agg #[.bool r,.int .i64 k],.int .i64 n] h (tf (r=true->0<=k/\k<=n)):=by
 refine acd au func100 acZ ac0 rfl ?_;cases r
 all_goals conv=>whnf
 ·exact⟨jQ (λh=>nomatch h),Heap.le_refl h⟩
 ·repeat' ((first|apply ax<;>intro _|apply aV<;>intro _)<;>conv=>whnf)
  all_goals first|exact⟨jQ (λ_=>by omega),Heap.le_refl h⟩|exact⟨iO (λhx=>by have:=hx rfl;omega),Heap.le_refl h⟩|exact⟨lX ⟨λhx=>by have:=hx rfl;omega,λhx _=>by omega⟩,Heap.le_refl h⟩
theorem acm (c:Value) (q:Option Addr) (n d:Nat) (k:Int) (h:Heap):Pure prog 102 [.agg #[c,.slice q n d],.int .i64 k] h (tf (0<=k/\k < n)):=by
 refine acd au func102 ac3 ac4 rfl ?_;conv=>whnf
 repeat' ((first|apply ax<;>intro _|apply aV<;>intro _)<;>conv=>whnf)
 all_goals first|exact⟨jQ (by omega),Heap.le_refl h⟩|exact⟨iO (by omega),Heap.le_refl h⟩|exact⟨lX (by omega),Heap.le_refl h⟩
theorem acf {K:Value->Heap->Prop} {E:List PanicEntry->Heap->Prop} {p:Option Addr} {n c:Nat} {cs:List dR} {x:Int} {h:Heap} (hr:fo h (.slice p n c) cs) (ok:cj cs) (h0:0<=x/\x < cs.length) (hK:∀ h' p' c',h.le h'->K (.slice p' (cX cs x).length c') h') :
  jA prog 157 [.slice p n c,.int .i64 x] h K E:=cE (nq _ p n c cs x h hr ok h0.1 h0.2 (Nat.lt_succ_self _)) (λv h' hh=>by
 obtain⟨l1,B,own,_⟩:=hh;obtain⟨p',c',rfl,_⟩:=own.form;rw[List.length_map];exact⟨l1,hK h' p' c' l1⟩)
def ObC (u:aU) (o:Ob):Prop:=((o.cls = -1\/o.cls = -2)/\o.bE.length<=6)\/(0<=o.cls/\o.cls < u.J.length/\o.bE.length=(cX u.J o.cls).length)
theorem acG (p:Option Addr) (cc:Nat) (u:aU) (o:Ob) (pv:Option Addr) (cv:Nat) (h:Heap) (hcs:Row 2 CG h (.slice p u.J.length cc) u.J) (hT:eC u):Pure prog 115 [.slice p u.J.length cc,.agg #[.int .i64 o.cls,.slice pv o.bE.length cv]] h (tf (ObC u o)):=by
 have adI:=hT.1;refine acd au func115 adt adu rfl ?_;unfold ObC;conv=>whnf
 by_cases c1:0<=o.cls/\o.cls < u.J.length
 ·have hc:=vu p u.J.length cc o.cls h;rw[lW c1]at hc;repeat' ((first|refine bL ?_|refine aT hc ?_|refine acf hcs adI c1 (λh' p' c' l1=>?_)|apply And.intro|exact trivial)<;>conv=>whnf)
  all_goals exact⟨lX (by omega),by first|exact Heap.le_refl h|assumption⟩
 ·have hc:=vu p u.J.length cc o.cls h;rw[eN c1]at hc;repeat' ((first|apply ax<;>intro _|refine aT hc ?_|apply And.intro|exact trivial)<;>conv=>whnf)
  all_goals first|exact⟨lX (by omega),Heap.le_refl h⟩|exact⟨iO (by omega),Heap.le_refl h⟩
theorem acP (x:Vl) (bm:Nat) (pf po:Option Addr) (no co:Nat) (vf vs:Value) (st fi on:Int) (orf:Bool) (t:TypeId) (h:Heap) (U:h bm=some (.cells [.slice po no co,vf,vs,.int .i64 st,.int .i64 fi,.bool orf,.int .i64 on].toArray t (0,0))) :
  Pure prog 99 [.agg ⟨bR x⟩,.pointer (some ⟨bm,0,none⟩)] h (tf (tD no x)):=by
 obtain⟨r,k⟩:=x;unfold bR tD;refine acd au func99 F99 adH rfl ?_;have h1:=acp r k no h;have h2:=CK k h;cases r
 all_goals conv=>whnf
 ·refine ay h2 ?_;conv=>whnf
  refine⟨?_,Heap.le_refl h⟩;by_cases hw:isWord k=true
  ·rw[hw];exact jQ (by simp[hw])
  ·have:isWord k=false:=by simpa using hw
   rw[this];exact iO (by simp[this])
 ·refine ld (ec U rfl) ?_;conv=>whnf
  refine ay h1 ?_;conv=>whnf
  refine⟨?_,Heap.le_refl h⟩;by_cases hw:0<=k/\k<=no
  ·rw[lW (λ_=>hw)];exact jQ (by simp;omega)
  ·rw[eN (λhx=>hw (hx rfl))];exact iO (by simp;omega)
theorem acw (l:List Vl) (v:Value) (bm:Nat) (Q:Vl->Prop) (h:Heap) (hv:Row 2 Sd h v l) (hQ:∀ x∈l,∀ xs,Sd h xs x->Pure prog 99 [.agg ⟨xs⟩,.pointer (some ⟨bm,0,none⟩)] h (tf (Q x))) :
  Pure prog 103 [v,.func (.func 99) #[] #[.pointer (some ⟨bm,0,none⟩)]] h (tf (∀ x∈l,Q x)):=by
 obtain⟨p,c,rfl,hc,hn⟩:=hv.len;refine acd au func103 ac5 ac6 rfl ?_;conv=>whnf
 refine fm [1,7,8,9] [] (λi:Nat=>i<=l.length/\∀ x∈l.take i,Q x) (λi=>l.length-i)
  (λi=>([.v (.func (.func 99) #[] #[.pointer (some ⟨bm,0,none⟩)]),.v (.slice p l.length c),.v (.int .i64 l.length),.v (.int .i64 i)],[],h)) 0 ⟨Nat.zero_le _,by simp⟩ rfl ?_
 rintro i ⟨hi,hj⟩;conv=>whnf
 apply ax<;>intro g;all_goals conv=>whnf
 ·have cG:i < l.length:=by omega
  obtain⟨b,off,xs,hp,r1,m1⟩:=hv.get cG;have fy:=hQ _ (List.getElem_mem cG) xs m1;unfold Sd at m1;subst m1;by_cases ab7:Q l[i]
  ·rw[lW ab7]at fy;repeat' ((first|refine aO hp ?_|refine aq ?_|refine dK r1 ?_|refine ay fy ?_|refine aj ?_)<;>conv=>whnf)
   exact dm (i+1) ⟨by omega,take_one cG hj ab7⟩ (by omega) rfl
  ·rw[eN ab7]at fy;repeat' ((first|refine aO hp ?_|refine aq ?_|refine dK r1 ?_|refine ay fy ?_|refine aj ?_)<;>conv=>whnf)
   exact⟨iO λhx=>ab7 (hx _ (List.getElem_mem cG)),Heap.le_refl h⟩
 ·have:i=l.length:=by omega
  subst this;rw[List.take_length]at hj;exact⟨jQ hj,Heap.le_refl h⟩
theorem acx (l:List Int) (v:Value) (Q:Int->Prop) (h:Heap) (hv:Row 1 NY h v l) (hQ:∀ x∈l,∀ xs,NY h xs x->Pure prog 66 [.int .i64 x] h (tf (Q x))) :
  Pure prog 109 [v,.func (.func 66) #[] #[]] h (tf (∀ x∈l,Q x)):=by
 obtain⟨p,c,rfl,hc,hn⟩:=hv.len;refine acd au func109 adj adk rfl ?_;conv=>whnf
 refine fm [1,7,8,9] [] (λi:Nat=>i<=l.length/\∀ x∈l.take i,Q x) (λi=>l.length-i)
  (λi=>([.v (.func (.func 66) #[] #[]),.v (.slice p l.length c),.v (.int .i64 l.length),.v (.int .i64 i)],[],h)) 0 ⟨Nat.zero_le _,by simp⟩ rfl ?_
 rintro i ⟨hi,hj⟩;conv=>whnf
 apply ax<;>intro g;all_goals conv=>whnf
 ·have cG:i < l.length:=by omega
  obtain⟨b,off,xs,hp,r1,m1⟩:=hv.get cG;have fy:=hQ _ (List.getElem_mem cG) xs m1;(unfold NY at m1;subst m1;have ra:=aK r1 (i:=0) rfl)
  by_cases ab7:Q l[i]
  ·rw[lW ab7]at fy;repeat' ((first|refine aO hp ?_|refine aq ?_|refine ld ra ?_|refine ay fy ?_|refine aj ?_)<;>conv=>whnf)
   exact dm (i+1) ⟨by omega,take_one cG hj ab7⟩ (by omega) rfl
  ·rw[eN ab7]at fy;repeat' ((first|refine aO hp ?_|refine aq ?_|refine ld ra ?_|refine ay fy ?_|refine aj ?_)<;>conv=>whnf)
   exact⟨iO λhx=>ab7 (hx _ (List.getElem_mem cG)),Heap.le_refl h⟩
 ·have:i=l.length:=by omega
  subst this;rw[List.take_length]at hj;exact⟨jQ hj,Heap.le_refl h⟩
theorem acq (l:List Ob) (v:Value) (Q:Ob->Prop) (h:Heap) (hv:Row 2 ObQ h v l) (hQ:∀ x∈l,∀ xs,ObQ h xs x->Pure prog 112 [.agg ⟨xs⟩] h (tf (Q x))) :
  Pure prog 111 [v,.func (.func 112) #[] #[]] h (tf (∀ x∈l,Q x)):=by
 obtain⟨p,c,rfl,hc,hn⟩:=hv.len;refine acd au func111 acM acL rfl ?_;conv=>whnf
 refine fm [1,7,8,9] [] (λi:Nat=>i<=l.length/\∀ x∈l.take i,Q x) (λi=>l.length-i)
  (λi=>([.v (.func (.func 112) #[] #[]),.v (.slice p l.length c),.v (.int .i64 l.length),.v (.int .i64 i)],[],h)) 0 ⟨Nat.zero_le _,by simp⟩ rfl ?_
 rintro i ⟨hi,hj⟩;conv=>whnf
 apply ax<;>intro g;all_goals conv=>whnf
 ·have cG:i < l.length:=by omega
  obtain⟨b,off,xs,hp,r1,m1⟩:=hv.get cG;have fy:=hQ _ (List.getElem_mem cG) xs m1;(obtain⟨w,rfl,hw⟩:=m1;obtain⟨_,_,rfl,_,_⟩:=hw.len)
  by_cases ab7:Q l[i]
  ·rw[lW ab7]at fy;repeat' ((first|refine aO hp ?_|refine aq ?_|refine dK r1 ?_|refine ay fy ?_|refine aj ?_)<;>conv=>whnf)
   exact dm (i+1) ⟨by omega,take_one cG hj ab7⟩ (by omega) rfl
  ·rw[eN ab7]at fy;repeat' ((first|refine aO hp ?_|refine aq ?_|refine dK r1 ?_|refine ay fy ?_|refine aj ?_)<;>conv=>whnf)
   exact⟨iO λhx=>ab7 (hx _ (List.getElem_mem cG)),Heap.le_refl h⟩
 ·have:i=l.length:=by omega
  subst this;rw[List.take_length]at hj;exact⟨jQ hj,Heap.le_refl h⟩
theorem acr (l:List Ob) (v:Value) (bu b5:Nat) (Q:Ob->Prop) (h:Heap) (hv:Row 2 ObQ h v l) (hQ:∀ x∈l,∀ xs,ObQ h xs x->Pure prog 114 [.agg ⟨xs⟩,.pointer (some ⟨bu,0,none⟩),.pointer (some ⟨b5,0,none⟩)] h (tf (Q x))) :
  Pure prog 111 [v,.func (.func 114) #[] #[.pointer (some ⟨bu,0,none⟩),.pointer (some ⟨b5,0,none⟩)]] h (tf (∀ x∈l,Q x)):=by
 obtain⟨p,c,rfl,hc,hn⟩:=hv.len;refine acd au func111 acM acL rfl ?_;conv=>whnf
 refine fm [1,7,8,9] [] (λi:Nat=>i<=l.length/\∀ x∈l.take i,Q x) (λi=>l.length-i)
  (λi=>([.v (.func (.func 114) #[] #[.pointer (some ⟨bu,0,none⟩),.pointer (some ⟨b5,0,none⟩)]),.v (.slice p l.length c),.v (.int .i64 l.length),.v (.int .i64 i)],[],h)) 0 ⟨Nat.zero_le _,by simp⟩ rfl ?_
 rintro i ⟨hi,hj⟩;conv=>whnf
 apply ax<;>intro g;all_goals conv=>whnf
 ·have cG:i < l.length:=by omega
  obtain⟨b,off,xs,hp,r1,m1⟩:=hv.get cG;have fy:=hQ _ (List.getElem_mem cG) xs m1;(obtain⟨w,rfl,hw⟩:=m1;obtain⟨_,_,rfl,_,_⟩:=hw.len)
  by_cases ab7:Q l[i]
  ·rw[lW ab7]at fy;repeat' ((first|refine aO hp ?_|refine aq ?_|refine dK r1 ?_|refine ay fy ?_|refine aj ?_)<;>conv=>whnf)
   exact dm (i+1) ⟨by omega,take_one cG hj ab7⟩ (by omega) rfl
  ·rw[eN ab7]at fy;repeat' ((first|refine aO hp ?_|refine aq ?_|refine dK r1 ?_|refine ay fy ?_|refine aj ?_)<;>conv=>whnf)
   exact⟨iO λhx=>ab7 (hx _ (List.getElem_mem cG)),Heap.le_refl h⟩
 ·have:i=l.length:=by omega
  subst this;rw[List.take_length]at hj;exact⟨jQ hj,Heap.le_refl h⟩
theorem acy (l:List bU) (v:Value) (bu b5:Nat) (Q:bU->Prop) (h:Heap) (hv:Row 4 abu h v l) (hQ:∀ x∈l,∀ xs,abu h xs x->Pure prog 101 [.agg ⟨xs⟩,.pointer (some ⟨bu,0,none⟩),.pointer (some ⟨b5,0,none⟩)] h (tf (Q x))) :
  Pure prog 117 [v,.func (.func 101) #[] #[.pointer (some ⟨bu,0,none⟩),.pointer (some ⟨b5,0,none⟩)]] h (tf (∀ x∈l,Q x)):=by
 obtain⟨p,c,rfl,hc,hn⟩:=hv.len;refine acd au func117 adx ady rfl ?_;conv=>whnf
 refine fm [1,7,8,9] [] (λi:Nat=>i<=l.length/\∀ x∈l.take i,Q x) (λi=>l.length-i)
  (λi=>([.v (.func (.func 101) #[] #[.pointer (some ⟨bu,0,none⟩),.pointer (some ⟨b5,0,none⟩)]),.v (.slice p l.length c),.v (.int .i64 l.length),.v (.int .i64 i)],[],h)) 0 ⟨Nat.zero_le _,by simp⟩ rfl ?_
 rintro i ⟨hi,hj⟩;conv=>whnf
 apply ax<;>intro g;all_goals conv=>whnf
 ·have cG:i < l.length:=by omega
  obtain⟨b,off,xs,hp,r1,m1⟩:=hv.get cG;have fy:=hQ _ (List.getElem_mem cG) xs m1;(obtain⟨w1,w2,rfl,Iy,Ck⟩:=m1;obtain⟨_,_,rfl,_,_⟩:=Iy.len;obtain⟨_,_,rfl,_,_⟩:=Ck.len)
  by_cases ab7:Q l[i]
  ·rw[lW ab7]at fy;repeat' ((first|refine aO hp ?_|refine aq ?_|refine dK r1 ?_|refine ay fy ?_|refine aj ?_)<;>conv=>whnf)
   exact dm (i+1) ⟨by omega,take_one cG hj ab7⟩ (by omega) rfl
  ·rw[eN ab7]at fy;repeat' ((first|refine aO hp ?_|refine aq ?_|refine dK r1 ?_|refine ay fy ?_|refine aj ?_)<;>conv=>whnf)
   exact⟨iO λhx=>ab7 (hx _ (List.getElem_mem cG)),Heap.le_refl h⟩
 ·have:i=l.length:=by omega
  subst this;rw[List.take_length]at hj;exact⟨jQ hj,Heap.le_refl h⟩
abbrev aca (b:Nat):Value:=.pointer (some ⟨b,0,none⟩)
structure Ask (h:Heap) (bu bm b5 b6:Nat) (p:Option Addr) (cc:Nat) (q:Option Addr) (d:Nat) (u:aU) (po:Option Addr) (co:Nat) (pf:Option Addr) (cf:Nat) (ps:Option Addr) (cs:Nat) (M:bZ):Prop where
 kbu:∃ t,h bu=some (.cells [.slice p u.J.length cc,.slice q u.methods.length d].toArray t (0,0))
 kbm:∃ t,h bm=some (.cells [.slice po M.objs.length co,.slice pf M.ag.length cf,.slice ps M.said.length cs,.int .i64 M.steps,.int .i64 M.fin,.bool M.out.ref,.int .i64 M.out.n].toArray t (0,0))
 kb5:∃ t,h b5=some (.cells [.func (.func 99) #[] #[aca bm]].toArray t (0,0))
 kb6:∃ t,h b6=some (.cells [.func (.func 101) #[] #[aca bu,aca b5]].toArray t (0,0))
 cls:Row 2 CG h (.slice p u.J.length cc) u.J
 br:Row 8 ee h (.slice q u.methods.length d) u.methods
 objs:Row 2 ObQ h (.slice po M.objs.length co) M.objs
 ag:Row 4 abu h (.slice pf M.ag.length cf) M.ag
 said:Row 1 NY h (.slice ps M.said.length cs) M.said
 hT:eC u
section
variable {h:Heap} {bu bm b5 b6:Nat} {p q po pf ps:Option Addr} {cc d co cf cs:Nat} {u:aU} {M:bZ}
theorem Ask.val (a:Ask h bu bm b5 b6 p cc q d u po co pf cf ps cs M) (x:Vl):Pure prog 99 [.agg ⟨bR x⟩,aca bm] h (tf (tD M.objs.length x)):=by
 obtain⟨t,U⟩:=a.kbm;exact acP x bm none po _ co _ _ _ _ _ _ t h U
theorem Ask.bE (a:Ask h bu bm b5 b6 p cc q d u po co pf cf ps cs M) (l:List Vl) (v:Value) (hv:Row 2 Sd h v l):Pure prog 103 [v,.func (.func 99) #[] #[aca bm]] h (tf (∀ x∈l,tD M.objs.length x)) :=
 acw l v bm _ h hv λx _ xs hx=>by
  unfold Sd at hx;subst hx;exact a.val x
theorem acQ (a:Ask h bu bm b5 b6 p cc q d u po co pf cf ps cs M) (f:bU) (xs:List Value) (hf:abu h xs f):Pure prog 101 [.agg ⟨xs⟩,aca bu,aca b5] h (tf (EW u M.objs.length f)):=by
 obtain⟨v1,v2,rfl,hv1,Wl⟩:=hf;have k1:=a.bE f.locals v1 hv1;have k2:=a.bE f.stack v2 Wl;obtain⟨p1,c1,rfl,V1,D2⟩:=hv1.len;obtain⟨p2,c2,rfl,LD,OI⟩:=Wl.len;obtain⟨tu,hbu⟩:=a.kbu;obtain⟨t5,qw⟩:=a.kb5;have F7:=a.br.len;have km:=acm (.slice p u.J.length cc) q u.methods.length d f.ah h;have ru:eG h bu 0 2=some [.slice p u.J.length cc,.slice q u.methods.length d]:=bP hbu 2 0 (by simp);have ru1:rd h bu 1=some (.slice q u.methods.length d):=ec hbu rfl;have r5:rd h b5 0=some (.func (.func 99) #[] #[aca bm]):=ec qw rfl;refine acd au func101 ac1 ac2 rfl ?_;conv=>whnf
 by_cases hm:0<=f.ah/\f.ah < u.methods.length
 ·rw[lW hm]at km;obtain⟨b,off,vs,hp,r1,m1⟩:=a.br.get (i:=f.ah.toNat) (by omega);have em:u.methods[f.ah.toNat]'(by omega)=br u f.ah:=by unfold br;rw[List.getD_eq_getElem?_getD,List.getElem?_eq_getElem (by omega)];rfl
  rw[em]at m1;obtain⟨_,_,_,_,rfl,_,_,_,_,_,w6,_,_⟩:=m1;obtain⟨_,_,rfl,_,_⟩:=w6.len;have ra:=aK r1 (i:=4) rfl;have rb:=aK r1 (i:=5) rfl;refine dK ru ?_;conv=>whnf
  refine aT km ?_;conv=>whnf
  repeat' ((first|apply ax<;>intro _|refine aO hp ?_|refine aq ?_|refine ld ru1 ?_|refine ld rb ?_|refine ld ra ?_|refine ld r5 ?_|refine aj ?_|refine aT (CV _ _ _ h) ?_|apply And.intro|exact trivial)<;>conv=>whnf)
  all_goals try first|exact⟨iO (acO (by omega)),Heap.le_refl h⟩|(exfalso;omega)
  by_cases ab2:∀ v∈f.locals,tD M.objs.length v
  ·rw[lW ab2]at k1;refine aT k1 ?_;conv=>whnf
   refine ld r5 ?_;conv=>whnf
   by_cases ab3:∀ v∈f.stack,tD M.objs.length v
   ·rw[lW ab3]at k2;refine aT k2 ?_;conv=>whnf
    exact⟨jQ ((ach hm).2 ⟨by omega,by omega,by omega,ab2,ab3⟩),Heap.le_refl h⟩
   ·rw[eN ab3]at k2;refine aT k2 ?_;conv=>whnf
    exact⟨iO (λhx=>ab3 ((ach hm).1 hx).2.2.2.2),Heap.le_refl h⟩
  ·rw[eN ab2]at k1;refine aT k1 ?_;conv=>whnf
   exact⟨iO (λhx=>ab2 ((ach hm).1 hx).2.2.2.1),Heap.le_refl h⟩
 ·rw[eN hm]at km;refine dK ru ?_;conv=>whnf
  refine aT km ?_;conv=>whnf
  repeat' ((first|apply And.intro|exact trivial)<;>conv=>whnf)
  all_goals exact⟨iO (λhx=>hm hx.1),Heap.le_refl h⟩
theorem acR (a:Ask h bu bm b5 b6 p cc q d u po co pf cf ps cs M):Pure prog 105 [aca bm] h (tf (0<=M.steps/\M.steps<=200)):=by
 obtain⟨t,U⟩:=a.kbm;refine acd au func105 ac9 ada rfl ?_;conv=>whnf
 refine ld (ec U rfl) ?_;conv=>whnf
 refine ay (CV _ _ _ h) ?_;conv=>whnf
 exact⟨lX Iff.rfl,Heap.le_refl h⟩
theorem acS (a:Ask h bu bm b5 b6 p cc q d u po co pf cf ps cs M):Pure prog 106 [aca bm] h (tf (7<=M.objs.length/\M.objs.length<=207)):=by
 obtain⟨t,U⟩:=a.kbm;refine acd au func106 adb ade rfl ?_;conv=>whnf
 refine ld (ec U rfl) ?_;conv=>whnf
 refine ay (CV _ _ _ h) ?_;conv=>whnf
 exact⟨lX (by omega),Heap.le_refl h⟩
theorem acT (a:Ask h bu bm b5 b6 p cc q d u po co pf cf ps cs M):Pure prog 107 [aca bm] h (tf (M.ag.length<=4/\M.said.length<=200)):=by
 obtain⟨t,U⟩:=a.kbm;refine acd au func107 adf adg rfl ?_;conv=>whnf
 repeat' ((first|apply ax<;>intro _|refine ld (ec (v:=.slice pf M.ag.length cf) U rfl) ?_|refine ld (ec (v:=.slice ps M.said.length cs) U rfl) ?_)<;>conv=>whnf)
 all_goals first|exact⟨lX (by omega),Heap.le_refl h⟩|exact⟨iO (by omega),Heap.le_refl h⟩
theorem acU (a:Ask h bu bm b5 b6 p cc q d u po co pf cf ps cs M):Pure prog 108 [aca bm] h (tf (∀ n∈M.said,isWord n=true)):=by
 obtain⟨t,U⟩:=a.kbm;have k:=acx M.said _ (λn=>isWord n=true) h a.said (λx _ xs _=>by
  have:=CK x h;by_cases hw:isWord x=true
  ·rw[lW hw,<-hw];exact this
  ·rw[eN hw,<-(show isWord x=false by simpa using hw)];exact this)
 refine acd au func108 adh adi rfl ?_;conv=>whnf
 refine ld (ec U rfl) ?_;conv=>whnf
 refine ay k ?_;conv=>whnf
 exact⟨rfl,Heap.le_refl h⟩
theorem acH (o:Ob) (xs:List Value) (ho:ObQ h xs o):Pure prog 112 [.agg ⟨xs⟩] h (tf (o.cls=1)):=by
 obtain⟨v,rfl,hv⟩:=ho;obtain⟨_,_,rfl,_,_⟩:=hv.len;refine acd au func112 adn ado rfl ?_;conv=>whnf
 exact⟨lX Iff.rfl,Heap.le_refl h⟩
theorem acz {α:Type} {sz:Nat} {R:Heap->List Value->α->Prop} {h:Heap} {p:Option Addr} {n c:Nat} {l:List α} (hr:Row sz R h (.slice p n c) l) {k:Nat} (hk:k<=l.length):Row sz R h (.slice p k c) (l.take k):=by
 obtain⟨h1,p',c',e,h2,h3⟩:=hr;simp only[Value.slice.injEq]at e;obtain⟨rfl,rfl,rfl⟩:=e;have hl:(l.take k).length=k:=by rw[List.length_take];omega
 refine⟨by omega,p,c,by rw[hl],by omega,?_⟩;rcases h3 with rfl|⟨b,off,rfl,hx⟩
 ·left;simp
 ·exact .inr ⟨b,off,rfl,λi x hi=>hx i x (by
   rw[List.getElem?_take]at hi;split at hi
   ·exact hi
   ·cases hi)⟩
theorem acV (a:Ask h bu bm b5 b6 p cc q d u po co pf cf ps cs M) (h7:7<=M.objs.length):Pure prog 110 [aca bm] h (tf (∀ o∈M.objs.take 7,o.cls=1)):=by
 obtain⟨t,U⟩:=a.kbm;obtain⟨_,_,e,hc,_⟩:=a.objs.len;simp only[Value.slice.injEq]at e;obtain⟨rfl,_,rfl⟩:=e;have k:=acq (M.objs.take 7) _ (λo=>o.cls=1) h (acz a.objs h7) (λx _ xs hx=>acH x xs hx);refine acd au func110 adl adm rfl ?_;conv=>whnf
 refine ld (ec U rfl) ?_;conv=>whnf
 refine aq ?_;conv=>whnf
 refine ay k ?_;conv=>whnf
 exact⟨rfl,Heap.le_refl h⟩
theorem acI (a:Ask h bu bm b5 b6 p cc q d u po co pf cf ps cs M) (o:Ob) (xs:List Value) (ho:ObQ h xs o):Pure prog 114 [.agg ⟨xs⟩,aca bu,aca b5] h (tf (RY u M.objs.length o)):=by
 obtain⟨v,rfl,hv⟩:=ho;have k:=a.bE o.bE v hv;obtain⟨pv,cv,rfl,_,_⟩:=hv.len;have kc:=acG p cc u o pv cv h a.cls a.hT;obtain⟨tu,hbu⟩:=a.kbu;obtain⟨t5,qw⟩:=a.kb5;refine acd au func114 adr ads rfl ?_;conv=>whnf
 refine ld (ec hbu rfl) ?_;conv=>whnf
 by_cases ab4:ObC u o
 ·rw[lW ab4]at kc;refine ay kc ?_;conv=>whnf
  refine ld (ec qw rfl) ?_;conv=>whnf
  by_cases ab6:∀ x∈o.bE,tD M.objs.length x
  ·rw[lW ab6]at k;refine ay k ?_;conv=>whnf
   exact⟨jQ ⟨ab6,ab4⟩,Heap.le_refl h⟩
  ·rw[eN ab6]at k;refine ay k ?_;conv=>whnf
   exact⟨iO λhx=>ab6 hx.1,Heap.le_refl h⟩
 ·rw[eN ab4]at kc;refine ay kc ?_;conv=>whnf
  exact⟨iO λhx=>ab4 hx.2,Heap.le_refl h⟩
theorem acW (a:Ask h bu bm b5 b6 p cc q d u po co pf cf ps cs M):Pure prog 113 [aca bm,aca bu,aca b5] h (tf (∀ o∈M.objs,RY u M.objs.length o)):=by
 obtain⟨t,U⟩:=a.kbm;have k:=acr M.objs _ bu b5 (λo=>RY u M.objs.length o) h a.objs (λx _ xs hx=>acI a x xs hx);refine acd au func113 adp adq rfl ?_;conv=>whnf
 refine ld (ec U rfl) ?_;conv=>whnf
 refine ay k ?_;conv=>whnf
 exact⟨rfl,Heap.le_refl h⟩
theorem acX (a:Ask h bu bm b5 b6 p cc q d u po co pf cf ps cs M):Pure prog 116 [aca bm,aca b6] h (tf (∀ f∈M.ag,EW u M.objs.length f)):=by
 obtain⟨t,U⟩:=a.kbm;obtain⟨t6,Ah⟩:=a.kb6;have k:=acy M.ag _ bu b5 (λf=>EW u M.objs.length f) h a.ag (λx _ xs hx=>acQ a x xs hx);refine acd au func116 adv adw rfl ?_;conv=>whnf
 refine ld (ec U rfl) ?_;conv=>whnf
 refine ld (ec Ah rfl) ?_;conv=>whnf
 refine ay k ?_;conv=>whnf
 exact⟨rfl,Heap.le_refl h⟩
theorem acJ (a:Ask h bu bm b5 b6 p cc q d u po co pf cf ps cs M):Pure prog 118 [aca b5,aca bm] h (tf (tD M.objs.length M.out/\aaG M)):=by
 obtain⟨t,U⟩:=a.kbm;obtain⟨t5,qw⟩:=a.kb5;have kv:=a.val M.out;have ke:=acE (.slice po M.objs.length co) (.slice ps M.said.length cs) pf cf M h;unfold bR at kv;unfold aB at ke;have r2:eG h bm 5 2=some [.bool M.out.ref,.int .i64 M.out.n]:=bP U 2 5 (by simp);have r7:eG h bm 0 7=some _:=bP U 7 0 (by simp);refine acd au func118 adz adA rfl ?_;conv=>whnf
 refine ld (ec qw rfl) ?_;conv=>whnf
 refine dK r2 ?_;conv=>whnf
 by_cases ab6:tD M.objs.length M.out
 ·rw[lW ab6]at kv;refine ay kv ?_;conv=>whnf
  refine dK r7 ?_;conv=>whnf
  by_cases ab5:aaG M
  ·rw[lW ab5]at ke;refine ay ke ?_;conv=>whnf
   exact⟨jQ ⟨ab6,ab5⟩,Heap.le_refl h⟩
  ·rw[eN ab5]at ke;refine ay ke ?_;conv=>whnf
   exact⟨iO λhx=>ab5 hx.2,Heap.le_refl h⟩
 ·rw[eN ab6]at kv;refine ay kv ?_;conv=>whnf
  exact⟨iO λhx=>ab6 hx.1,Heap.le_refl h⟩
def asks (bu bm b5 b6:Nat):List Value:=[.func (.func 105) #[] #[aca bm],.func (.func 106) #[] #[aca bm],.func (.func 107) #[] #[aca bm],.func (.func 108) #[] #[aca bm],.func (.func 110) #[] #[aca bm],.func (.func 113) #[] #[aca bm,aca bu,aca b5],.func (.func 116) #[] #[aca bm,aca b6],.func (.func 118) #[] #[aca b5,aca bm]]
def ace (u:aU) (M:bZ):List Prop:=[0<=M.steps/\M.steps<=200,7<=M.objs.length/\M.objs.length<=207,M.ag.length<=4/\M.said.length<=200,∀ n∈M.said,isWord n=true,∀ o∈M.objs.take 7,o.cls=1,∀ o∈M.objs,RY u M.objs.length o,∀ f∈M.ag,EW u M.objs.length f,tD M.objs.length M.out/\aaG M]
theorem aco (u:aU) (M:bZ):(∀ c∈ace u M,c)↔zC u M:=by
 rw[acF];simp only[ace,List.mem_cons,List.not_mem_nil,or_false,forall_eq_or_imp,forall_eq];constructor
 ·rintro⟨c1,c2,c3,c4,c5,c6,c7,c8⟩;refine⟨⟨c1,c2,c3.1,c3.2⟩,c8.1,λi hi=>⟨c6 _ (List.getElem_mem hi),λh7=>c5 _ ?_⟩,c7,c4,c8.2⟩;rw[List.mem_take_iff_getElem];exact⟨i,by omega,rfl⟩
 ·rintro⟨⟨c1,c2,c3,c4⟩,c5,c6,c7,c8,c9⟩;refine⟨c1,c2,⟨c3,c4⟩,c8,λo ho=>?_,λo ho=>?_,c7,c5,c9⟩
  ·rw[List.mem_take_iff_getElem]at ho;obtain⟨i,hi,rfl⟩:=ho;exact(c6 i (by omega)).2 (by omega)
  ·obtain⟨i,hi,rfl⟩:=List.mem_iff_getElem.1 ho;exact(c6 i hi).1
theorem acK (a:Ask h bu bm b5 b6 p cc q d u po co pf cf ps cs M) {ab1:Nat} {t8:TypeId} (h8:h ab1=some (.cells (asks bu bm b5 b6).toArray t8 (0,0))):Pure prog 104 [.slice (some ⟨ab1,0,none⟩) 8 8] h (tf (zC u M)):=by
 refine acd au func104 ac7 ac8 rfl ?_;conv=>whnf
 refine fm [5,6,7] [] (λi:Nat=>i<=8/\∀ c∈(ace u M).take i,c) (λi=>8-i)
  (λi=>([.v (.slice (some ⟨ab1,0,none⟩) 8 8),.v (.int .i64 8),.v (.int .i64 i)],[],h)) 0 ⟨Nat.zero_le _,by simp⟩ rfl ?_
 rintro i ⟨hi,hj⟩;conv=>whnf
 apply ax<;>intro g;all_goals conv=>whnf
 ·have cG:i < (ace u M).length:=by simp[ace];omega
  have acj:(ace u M)[i]->∀ c∈(ace u M).take (i+1),c:=λhc=>take_one (Q:=λc=>c) cG hj hc;have no:¬(ace u M)[i]->¬zC u M:=λhc hm=>hc ((aco u M).2 hm _ (List.getElem_mem cG));have hi8:i=0\/i=1\/i=2\/i=3\/i=4\/i=5\/i=6\/i=7:=by omega
  refine aq ?_;conv=>whnf
  refine ptr ?_;conv=>whnf
  rcases hi8 with rfl|rfl|rfl|rfl|rfl|rfl|rfl|rfl
  ·refine ld (ec (i:=0) h8 rfl) ?_;conv=>whnf
   refine acb (acR a) (λab7=>?_) (λab7=>?_)
   ·conv=>whnf
    refine aj ?_;conv=>whnf
    exact dm (0+1) ⟨by omega,acj ab7⟩ (by omega) rfl
   ·conv=>whnf
    exact⟨iO (no ab7),Heap.le_refl h⟩
  ·refine ld (ec (i:=1) h8 rfl) ?_;conv=>whnf
   refine acb (acS a) (λab7=>?_) (λab7=>?_)
   ·conv=>whnf
    refine aj ?_;conv=>whnf
    exact dm (1+1) ⟨by omega,acj ab7⟩ (by omega) rfl
   ·conv=>whnf
    exact⟨iO (no ab7),Heap.le_refl h⟩
  ·refine ld (ec (i:=2) h8 rfl) ?_;conv=>whnf
   refine acb (acT a) (λab7=>?_) (λab7=>?_)
   ·conv=>whnf
    refine aj ?_;conv=>whnf
    exact dm (2+1) ⟨by omega,acj ab7⟩ (by omega) rfl
   ·conv=>whnf
    exact⟨iO (no ab7),Heap.le_refl h⟩
  ·refine ld (ec (i:=3) h8 rfl) ?_;conv=>whnf
   refine acb (acU a) (λab7=>?_) (λab7=>?_)
   ·conv=>whnf
    refine aj ?_;conv=>whnf
    exact dm (3+1) ⟨by omega,acj ab7⟩ (by omega) rfl
   ·conv=>whnf
    exact⟨iO (no ab7),Heap.le_refl h⟩
  ·refine ld (ec (i:=4) h8 rfl) ?_;conv=>whnf
   refine acb (acV a (hj (7<=M.objs.length/\M.objs.length<=207) (by simp[ace])).1) (λab7=>?_) (λab7=>?_)
   ·conv=>whnf
    refine aj ?_;conv=>whnf
    exact dm (4+1) ⟨by omega,acj ab7⟩ (by omega) rfl
   ·conv=>whnf
    exact⟨iO (no ab7),Heap.le_refl h⟩
  ·refine ld (ec (i:=5) h8 rfl) ?_;conv=>whnf
   refine acb (acW a) (λab7=>?_) (λab7=>?_)
   ·conv=>whnf
    refine aj ?_;conv=>whnf
    exact dm (5+1) ⟨by omega,acj ab7⟩ (by omega) rfl
   ·conv=>whnf
    exact⟨iO (no ab7),Heap.le_refl h⟩
  ·refine ld (ec (i:=6) h8 rfl) ?_;conv=>whnf
   refine acb (acX a) (λab7=>?_) (λab7=>?_)
   ·conv=>whnf
    refine aj ?_;conv=>whnf
    exact dm (6+1) ⟨by omega,acj ab7⟩ (by omega) rfl
   ·conv=>whnf
    exact⟨iO (no ab7),Heap.le_refl h⟩
  ·refine ld (ec (i:=7) h8 rfl) ?_;conv=>whnf
   refine acb (acJ a) (λab7=>?_) (λab7=>?_)
   ·conv=>whnf
    refine aj ?_;conv=>whnf
    exact dm (7+1) ⟨by omega,acj ab7⟩ (by omega) rfl
   ·conv=>whnf
    exact⟨iO (no ab7),Heap.le_refl h⟩
 ·have:i=8:=by omega
  subst this;exact⟨jQ ((aco u M).1 (by simpa [ace]using hj)),Heap.le_refl h⟩
end
theorem acA (us mc:List Value) (u:aU) (M:bZ) (h:Heap) (hu:dL h us u) (hT:eC u) (hM:RH h mc M):Pure prog 56 [.agg ⟨us⟩,.agg ⟨mc⟩] h (tf (zC u M)):=by
 obtain⟨p,cc,q,d,rfl,hcs,fM,jN,hl2⟩:=hu.form;obtain⟨vo,vf,vs,rfl,w1,w2,w3⟩:=hM;obtain⟨po,co,rfl,OZ,PD⟩:=w1.len;obtain⟨pf,cf,rfl,hcf,Qn⟩:=w2.len;obtain⟨ps,cs,rfl,hcS,hns⟩:=w3.len;unfold aB;refine acd au func56 F56 adG rfl ?_;conv=>whnf
 refine dI [.slice p u.J.length cc,.slice q u.methods.length d] rfl (λbu h1 hbu e1 l1 g1=>?_);conv=>whnf
 refine dI [.slice po M.objs.length co,.slice pf M.ag.length cf,.slice ps M.said.length cs,.int .i64 M.steps,.int .i64 M.fin,.bool M.out.ref,.int .i64 M.out.n] rfl (λbm h2 iq e2 l2 g2=>?_);conv=>whnf
 refine dI [.nilFunc] rfl (λb5 h3 qw e3 l3 g3=>?_);conv=>whnf
 refine z7 g3 [.func (.func 99) #[] #[aca bm]] (by simp) rfl (λh4 e4 g4=>?_);conv=>whnf
 refine dI [.nilFunc] rfl (λb6 h5 Ah e5 l5 g5=>?_);conv=>whnf
 refine z7 g5 [.func (.func 101) #[] #[aca bu,aca b5]] (by simp) rfl (λh6 e6 g6=>?_);conv=>whnf
 refine dI (asks bu bm b5 b6) rfl (λab1 h7 YH e7 l7 g7=>?_);have n35:h4 b6=none:=Ah;have k4:∀ z,z≠b5->h4 z=h3 z:=λz hz=>by rw[e4];simp[Heap.set,hz]
 have k6:∀ z,z≠b6->h6 z=h5 z:=λz hz=>by rw[e6];simp[Heap.set,hz]
 have l24:h2.le h4:=λz o ho=>by
  rw[k4 z (by rintro rfl;rw[qw]at ho;cases ho)];exact l3 z o ho
 have l46:h4.le h6:=λz o ho=>by
  rw[k6 z (by rintro rfl;rw[Ah]at ho;cases ho)];exact l5 z o ho
 have l27:=Heap.le_trans l24 (Heap.le_trans l46 l7);have l07:h.le h7:=Heap.le_trans l1 (Heap.le_trans l2 l27);have a:Ask h7 bu bm b5 b6 p cc q d u po co pf cf ps cs M:=⟨⟨_,l27 _ _ (l2 _ _ g1)⟩,⟨_,l27 _ _ g2⟩,⟨_,l7 _ _ (l46 _ _ g4)⟩,⟨_,l7 _ _ g6⟩,hcs.le l07 (λ_ _ hx=>hx.le l07),fM.le l07 (λ_ _ hx=>hx.le l07),w1.le l07 (λ_ _ hx=>ObQ.le l07 hx),w2.le l07 (λ_ _ hx=>abu.le l07 hx),w3.le l07 (λ_ _ hx=>hx),hT⟩
 conv=>whnf
 refine ay (acK a g7) ?_;conv=>whnf
 exact⟨rfl,l07⟩
theorem acB (us mc:List Value) (u:aU) (M:bZ) (h:Heap) (hu:dL h us u) (hM:RH h mc M):Pure prog 27 [.agg ⟨us⟩,.agg ⟨mc⟩] h (tf (eC u/\zC u M)):=by
 have hUn:=Jn us u h hu;have hMo:=λhT=>acA us mc u M h hu hT hM;obtain⟨p,cc,q,d,rfl,hcs,fM,jN,hl2⟩:=hu.form;obtain⟨vo,vf,vs,rfl,w1,w2,w3⟩:=hM;obtain⟨po,co,rfl,OZ,PD⟩:=w1.len;obtain⟨pf,cf,rfl,hcf,Qn⟩:=w2.len;obtain⟨ps,cs,rfl,hcS,hns⟩:=w3.len;unfold aB at hMo ⊢;refine acd au func27 F27 adF rfl ?_;conv=>whnf
 refine acb hUn (λhT=>?_) (λhT=>?_)
 ·conv=>whnf
  refine acb (hMo hT) (λhm=>?_) (λhm=>?_)
  ·conv=>whnf
   exact⟨jQ ⟨hT,hm⟩,Heap.le_refl h⟩
  ·conv=>whnf
   exact⟨iO λhx=>hm hx.2,Heap.le_refl h⟩
 ·conv=>whnf
  exact⟨iO λhx=>hT hx.1,Heap.le_refl h⟩
open Go.Vc Go.Proofs.Tryz
set_option maxRecDepth 100000
set_option maxHeartbeats 4000000
def acC (u:aU) (M R:bZ):Prop:=(eC u/\zC u M->R=gY u M)/\(¬(eC u/\zC u M)->R=mL)
theorem ack (us mc:List Value) (u:aU) (M:bZ) (h:Heap) (hu:dL h us u) (hM:xZ h mc M) (hQ:RH h mc M) (R:bZ) (xo:acC u M R):bI prog 22 [.agg ⟨us⟩,.agg ⟨mc⟩] h (Nl h R):=by
 have hOk:=acB us mc u M h hu hQ;have step:=λhT hI=>EV mc us u M h hM hu hT hI;obtain⟨p,cc,q,d,rfl,hcs,fM,jN,hl2⟩:=hu.form;obtain⟨vo,vf,vs,rfl,w1,w2,w3⟩:=hQ;obtain⟨po,co,rfl,OZ,PD⟩:=w1.len;obtain⟨pf,cf,rfl,hcf,Qn⟩:=w2.len;obtain⟨ps,cs,rfl,hcS,hns⟩:=w3.len;unfold aB at hOk step ⊢;refine bS au func22 F22 adE rfl ?_;conv=>whnf
 refine acb hOk (λhP=>?_) (λhP=>?_);all_goals conv=>whnf
 ·rw[xo.1 hP];refine aD (step hP.1 (λhf=>hP.2.Qx hP.1 hf)) (λv h1 hh=>?_);obtain⟨l1,F5,B,rfl,own,nd,fr⟩:=hh;obtain⟨_,_,_,_,_,_,rfl⟩:=own.kr;unfold kr aB at own ⊢;conv=>whnf
  exact⟨l1,_,B,rfl,own,nd,fr⟩
 ·rw[xo.2 hP];exact⟨Heap.le_refl h,_,[],rfl,yK h,λ_=>by simp,by simp⟩
theorem acn {u:aU} (hT:eC u) {i:Nat} (hi:i<=200):acC u (runM u i) (runM u (i+1)):=⟨λ_=>rfl,λhn=>absurd ⟨hT,(Fe hT i hi).ok⟩ hn⟩
theorem aci (v:Value) (p2:Option Addr) (c2 n k:Nat) (h:Heap) (hB:Bytes h v n) (hn:n<=140737488355328) (hk:k<=140737488355328) (hy:Pa h):Pure prog 6 [v,.slice p2 k c2] h (.bool true):=by
 have XL:=hB;obtain⟨p,c,rfl,hc,_⟩:=hB;refine GN au func6 ab0 ok6 rfl ?_;conv=>whnf
 apply ax<;>intro g;all_goals conv=>whnf
 ·exact⟨rfl,Heap.le_refl h⟩
 apply ax<;>intro g;all_goals conv=>whnf
 ·exact⟨rfl,Heap.le_refl h⟩
 refine aD (sD _ n h XL (by omega) hy) ?_;rintro v0 h0 ⟨us,u,x,l0,rfl,hu,x0,x1⟩;have iJ:=hu;obtain⟨p1,c1,q1,d1,rfl,hcs,fM,jN,hl2⟩:=hu.form;obtain⟨R,xo⟩:=Dt u x;have hs:=xo.NZ;conv=>whnf
 refine aD (td _ u x h0 iJ R xo) ?_;rintro v1 h1 ⟨l1,m1,B1,rfl,o1,n1,f1⟩;obtain⟨po,co,pf,cf,pw,cw,rfl⟩:=o1.kr;unfold kr aB at o1 ⊢;conv=>whnf
 refine cE (mM _ u x h1 (iJ.le l1) R xo) (λv2 h2 hh=>?_);obtain⟨l2,m2,B2,rfl,o2,n2,f2⟩:=hh;obtain⟨_,_,_,_,_,_,rfl⟩:=o2.kr;refine⟨l2,?_⟩;unfold kr aB at o2 ⊢;have oq:=(o1.aG (cC.of_le l2 _)).pY hs;conv=>whnf
 refine aT (oD _ _ R h2 oq (o2.pY hs)) ?_;have yw:=iJ.le (Heap.le_trans l1 l2);have Gl:=Heap.le_trans l0 (Heap.le_trans l1 l2);conv=>whnf
 refine acu (rA _ u h2 yw) (λhU=>?_) (λhU=>?_);all_goals conv=>whnf
 ·apply ax<;>intro gx;all_goals conv=>whnf
  ·skip
   refine cE (mM _ u x h2 yw R xo) (λv3 h3 hh=>?_);obtain⟨l3,m3,B3,rfl,o3,n3,f3⟩:=hh;obtain⟨_,_,_,_,_,_,rfl⟩:=o3.kr;refine⟨l3,?_⟩;unfold kr aB at o3 ⊢;conv=>whnf
   refine aT (oD _ _ R h3 ((o1.aG (cC.of_le (Heap.le_trans l2 l3) _)).pY hs) (o3.pY hs)) ?_;conv=>whnf
   exact⟨rfl,Heap.le_trans Gl l3⟩
  apply ax<;>intro gy;all_goals conv=>whnf
  ·skip
   refine cE (mM _ u x h2 yw R xo) (λv3 h3 hh=>?_);obtain⟨l3,m3,B3,rfl,o3,n3,f3⟩:=hh;obtain⟨_,_,_,_,_,_,rfl⟩:=o3.kr;refine⟨l3,?_⟩;unfold kr aB at o3 ⊢;conv=>whnf
   refine aT (oD _ _ R h3 ((o1.aG (cC.of_le (Heap.le_trans l2 l3) _)).pY hs) (o3.pY hs)) ?_;conv=>whnf
   exact⟨rfl,Heap.le_trans Gl l3⟩
  have hP:wW u x:=⟨hU,by omega,by omega⟩
  have hR:=xo.1 hP;refine aj ?_;conv=>whnf
  refine aq ?_;have t1:=Gs (a:=(k:Int)) (b:=x+1) (by omega) (by omega);have acY:yJ u ((k:Int).tmod (x+1)) (runM u ((k:Int).tmod (x+1)).toNat):=⟨λ_=>rfl,λhn=>absurd ⟨hU,by omega,by omega⟩ hn⟩
  obtain⟨ab8,QK⟩:∃ ab8:Nat,(k:Int).tmod (x+1)=ab8:=Int.eq_ofNat_of_zero_le t1.1;rw[QK]at t1 acY ⊢;rw[Int.toNat_natCast]at acY;conv=>whnf
  refine aD (td _ u ab8 h2 yw _ acY) (λv3 h3 hh=>?_);refine hh.2.elim λmc0 fU=>fU.elim λB0 fU=>?_;have hv:=fU.1;subst hv;refine fU.2.1.kr.elim λpo0 hf=>hf.elim λco0 hf=>hf.elim λpf0 hf=>hf.elim λcf0 hf=>hf.elim λps0 hf=>hf.elim λcs0 hf=>?_;subst hf;conv=>whnf
  refine fm [5,6,7,9,10] [5,7,9] (λs:Nat × Heap × (Option Addr × Nat) × (Option Addr × Nat) × (Option Addr × Nat) × List Nat=>(s.1:Int)<=x/\h2.le s.2.1/\gJ s.2.1 (kr s.2.2.1.1 s.2.2.1.2 s.2.2.2.1.1 s.2.2.2.1.2 s.2.2.2.2.1.1 s.2.2.2.2.1.2 (runM u s.1)) (runM u s.1) s.2.2.2.2.2) (λs=>x.toNat-s.1)
   (λs=>([.l 5 0,.v (.int .i64 x),.l 7 0,.l 9 0,.v (.int .i64 s.1)],
    [some [.slice p1 u.J.length c1,.slice q1 u.methods.length d1],some [.slice po R.objs.length co,.slice pf R.ag.length cf,.slice pw R.said.length cw,.int .i64 R.steps,.int .i64 R.fin,.bool R.out.ref,.int .i64 R.out.n],some (kr s.2.2.1.1 s.2.2.1.2 s.2.2.2.1.1 s.2.2.2.1.2 s.2.2.2.2.1.1 s.2.2.2.2.1.2 (runM u s.1))],s.2.1))
   (ab8,h3,(po0,co0),(pf0,cf0),(ps0,cs0),B0) ⟨by simp only;omega,hh.1,fU.2.1⟩ rfl ?_
  rintro⟨i,h4,⟨pa,ca⟩,⟨pb,cb⟩,⟨pc,cc⟩,B⟩ ⟨hi,hle,own⟩;simp only at hi hle own ⊢;unfold kr aB;conv=>whnf
  apply ax<;>intro g;all_goals conv=>whnf
  ·have hI:=Fe hU i (by omega);have sm:=hI.ok.small hU;refine aD (ack _ _ u (runM u i) h4 (yw.le hle) (own.read sm) (own.pY sm.NZ) _ (acn hU (by omega))) (λv5 h5 hh=>?_);refine hh.2.elim λmc5 jj=>jj.elim λB5 jj=>?_;have hv:=jj.1;subst hv;have JN:gJ h5 mc5 (runM u (i+1)) B5:=jj.2.1;refine JN.kr.elim λpo3 hf=>hf.elim λQD hf=>hf.elim λpf3 hf=>hf.elim λcf3 hf=>hf.elim λps3 hf=>hf.elim λcs3 hf=>?_;subst hf;conv=>whnf
   refine aj ?_;conv=>whnf
   exact dm (i+1,h5,(po3,QD),(pf3,cf3),(ps3,cs3),B5) ⟨by simp only;omega,Heap.le_trans hle hh.1,JN⟩ (by simp only;omega) rfl
  ·have nV:i=x.toNat:=by omega
   subst nV;rw[<-hR]at own ⊢;have l24:=Heap.le_trans l2 hle;refine ay (oD _ _ R h4 (own.pY hs) ((o1.aG (cC.of_le l24 _)).pY hs)) ?_;conv=>whnf
   exact⟨rfl,Heap.le_trans Gl hle⟩
 ·skip
  refine cE (mM _ u x h2 yw R xo) (λv3 h3 hh=>?_);obtain⟨l3,m3,B3,rfl,o3,n3,f3⟩:=hh;obtain⟨_,_,_,_,_,_,rfl⟩:=o3.kr;refine⟨l3,?_⟩;unfold kr aB at o3 ⊢;conv=>whnf
  refine aT (oD _ _ R h3 ((o1.aG (cC.of_le (Heap.le_trans l2 l3) _)).pY hs) (o3.pY hs)) ?_;conv=>whnf
  exact⟨rfl,Heap.le_trans Gl l3⟩
theorem FnRunSteps_c (v w:Value) (n k:Nat) (h:Heap) (hB:Bytes h v n) (hn:n<=140737488355328) (hW:Bytes h w k) (hk:k<=140737488355328):Pure prog 6 [v,w] h (.bool true):=by
 obtain⟨hs,hl,U,hy⟩:=wO hB;obtain⟨p2,c2,rfl,_⟩:=hW;exact DU hl (aci v p2 c2 n k hs U hn hk hy)
end Go.Proofs
