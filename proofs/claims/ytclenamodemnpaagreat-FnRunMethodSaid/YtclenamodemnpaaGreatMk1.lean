/- Part 1 of the lemmas on which the law rests: what functions of the program and of the reference do; no conditions but those that each lemma states. -/
import Derived.Test.YtclenamodemnpaaGreatProg
import Derived.Test.YtclenamodemnpaaGreatMf10
set_option linter.unusedSimpArgs false
set_option linter.unusedVariables false
namespace Go.Proofs
open Go.Vc Go.Proofs.Tryz
def Tryz.ab0:Fs:={L:=[5,7],LL:=[24,25,31,35,36,41,45,49,54,58,62,68],cr:=[(5,[2,0,1,3,4,5,6,7,8,9,10]),(6,[2,0,1,3,4,5]),(7,[0,1,2,3,4,7,5,9,6,8,10,11,12]),(9,[0,1,2,3,4,6,7,8,13,5,9,10,11,15,12,14,16,17,18])]}
theorem Tryz.ok5:aQ ab0 Tryz.f5 2=true:=by kernel_rfl
def Tryz.F20:Fs:={L:=[1,2,3,4,16],LL:=[13,15],cr:=[(3,[1,2,4,5,0,3,6,7,8])]}
theorem Tryz.acx:aQ F20 Tryz.f20 1=true:=by kernel_rfl
def Tryz.F21:Fs:={L:=[2,4,5,14]}
theorem Tryz.acy:aQ F21 Tryz.f21 2=true:=by kernel_rfl
set_option maxRecDepth 100000
set_option maxHeartbeats 4000000
theorem acn {P:Program} {f:FuncId} {args:List Value} {h:Heap} {K:Value->Heap->Prop} {E:List PanicEntry->Heap->Prop} {p:Prop} (k:Go.Vc.Pure P f args h (tf p)) (ht:p->K (.bool true) h) (hf:¬p->K (.bool false) h):jA P f args h K E:=by
 by_cases hp:p
 ·rw[lW hp]at k;exact aT k (ht hp)
 ·rw[eN hp]at k;exact aT k (hf hp)
structure acw (v x:Value) (h' h:Heap):Prop where
 e:v=x
 k:h.le h'
theorem acz {P:Program} {f:FuncId} {args:List Value} {h:Heap} {S:nH} (hS:dn P S) {fn:Func} (hf:P.funcs[f]? = some fn) (F:Fs) {k:Nat} (ez:aQ F fn k=true) {x:Value} (hl:args.length=k) (hx:Goal P S F fn args h λo h'=>match o with
  | .ret v=>acw v x h' h
  | .lE _=>False):Go.Vc.Pure P f args h x:=by
 subst hl;unfold Go.Vc.Pure bI;refine(calls hS hf F ez hx).shrink λo h' hh=>?_;cases o with
 | ret v=>exact⟨h,hh.2,hh.1,rfl⟩
 | lE c=>exact hh.elim
structure Ext (u u':aU):Prop where
 cls:∀ i:Nat,i < u.J.length->u'.J[i]? = u.J[i]?
 cl:u.J.length<=u'.J.length
 ml:u.methods.length<=u'.methods.length
 mt:∀ k:Int,k < u.methods.length->br u' k=br u k
 own:∀ c s k:Int,0<=c->je c s u'.methods k=je c s u.methods k
section
variable {u u':aU}
theorem Ext.sup (e:Ext u u') {c:Int} (hl:c < u.J.length) (h0:0<=c):bC u'.J c=bC u.J c:=by
 unfold bC;rw[e.cls _ (by omega)]
theorem Ext.fat (e:Ext u u') {c:Int} (hl:c < u.J.length) (h0:0<=c):iP u'.J c=iP u.J c:=by
 unfold iP;rw[e.cls _ (by omega)]
theorem Ext.GR (e:Ext u u') (ok:cj u.J) (b:Int):∀(k:Nat) (a:Int),a < u.J.length->Go.Proofs.GR u'.J b k a=Go.Proofs.GR u.J b k a
 | 0,_,_=>rfl
 | k+1,a,hl=>by
  rw[Go.Proofs.GR,Go.Proofs.GR];by_cases h0:0<=a
  ·rw[e.sup hl h0,e.GR ok b k _ (by have:=ok.bN h0 hl;omega)]
  ·simp[h0]
theorem Ext.up (e:Ext u u') (ok:cj u.J) {a:Int} (b:Int) (hl:a < u.J.length):up u'.J a b=up u.J a b:=e.GR ok b _ a hl
theorem Ext.CO (e:Ext u u') (ok:cj u.J):∀(k:Nat) (a:Int),a < u.J.length->Go.Proofs.CO u'.J k a=Go.Proofs.CO u.J k a
 | 0,_,_=>rfl
 | k+1,a,hl=>by
  rw[Go.Proofs.CO,Go.Proofs.CO];by_cases h0:a<=0
  ·rw[if_pos h0,if_pos h0]
  ·rw[if_neg h0,if_neg h0,e.sup hl (by omega),e.fat hl (by omega),e.CO ok k _ (by have:=ok.bN (by omega) hl;omega)]
theorem Ext.cX (e:Ext u u') (ok:cj u.J) {a:Int} (hl:a < u.J.length):cX u'.J a=cX u.J a:=e.CO ok _ a hl
theorem Ext.nQ (e:Ext u u') (ok:cj u.J) (s:Int):∀(k:Nat) (a:Int),a < u.J.length->Go.Proofs.nQ u' s k a=Go.Proofs.nQ u s k a
 | 0,_,_=>rfl
 | k+1,a,hl=>by
  rw[Go.Proofs.nQ,Go.Proofs.nQ];by_cases h0:0<=a
  ·rw[if_pos h0,if_pos h0,e.own a s 0 h0,e.sup hl h0,e.nQ ok s k _ (by have:=ok.bN h0 hl;omega)]
  ·rw[if_neg h0,if_neg h0]
theorem Ext.find (e:Ext u u') (ok:cj u.J) (s:Int) {a:Int} (hl:a < u.J.length):find u' a s=find u a s:=e.nQ ok s _ a hl
theorem Ext.ju (e:Ext u u') (ok:cj u.J) {a b:Int} (hl:a < 8+u.J.length):ju u'.J a b=ju u.J a b:=by
 unfold Go.Proofs.ju;rw[e.up ok (a:=a-8) (b-8) (by omega)]
theorem aci (u:aU) (c s:Int) (hm:1<=u.methods.length):∀ k,nQ u s k c < u.methods.length:=by
 intro k;induction k generalizing c with
 | zero=>rw[nQ];omega
 | succ k ih =>
  rw[nQ];split
  ·split
   ·rcases ya (c:=c) (s:=s) u.methods 0 with h|h<;>omega
   ·exact ih _
  ·omega
theorem aco {m:cB} {x:dX} (hx:eH u m x):(x.kind=20->x.a < u.methods.length)/\(x.kind=21->x.a < u.J.length):=by
 obtain⟨kind,a,b⟩:=x;refine⟨λhk=>?_,λhk=>?_⟩
 ·simp only at hk;subst hk;have:=(aI (p:=7) (q:=0) rfl).1 hx;simp[bA]at this;exact this.1.1.2
 ·simp only at hk;subst hk;have:=(aI (p:=5) (q:=9) rfl).1 hx;simp[bA]at this;exact this.1.2
theorem Ext.acA (e:Ext u u') (hu:eC u) {m:cB} {x:dX} (hx:eH u m x):cM u' x=cM u x:=by
 obtain⟨G0,LJ⟩:=aco hx;unfold cM;by_cases MW:x.kind=20
 ·rw[e.mt _ (G0 MW)];simp only[MW];simp
 ·by_cases MX:x.kind=21
  ·rw[e.find hu.1 x.b (LJ MX),e.mt (Go.Proofs.find u x.a x.b) (aci u x.a x.b hu.2.1.1 (x.a.toNat+1))];simp only[MX];simp
  ·simp only[MW,MX,if_false]
theorem Ext.take (e:Ext u u') (hu:eC u) {m:cB} {x:dX} (hx:eH u m x) (cA:List Vl):dB u' x cA=dB u x cA:=by
 unfold dB;rw[e.acA hu hx]
theorem Ext.vM (e:Ext u u') (hu:eC u) {m:cB} {x:dX} (hx:eH u m x) {objs:List Ob} (ho:∀ k,(aF objs k).cls < u.J.length) (aS:List Vl) (f:bU):bH u' x aS objs f=bH u x aS objs f:=by
 have ht:=hx.vM;unfold bH;simp only;by_cases JS:x.kind=12
 ·rw[if_pos JS,if_pos JS,e.cX hu.1 (ht.1 (.inl JS)).2]
 rw[if_neg JS,if_neg JS,e.up hu.1 x.a (ho _)];by_cases MU:x.kind=19
 ·rw[e.ju hu.1 (by
   have:=ho (aS.getD 0 cJ).n;unfold typeOf;split
   ·omega
   ·split<;>omega)]
 ·rw[if_neg MU,if_neg MU]
theorem Ext.mid (e:Ext u u') (hu:eC u) {m:cB} {x:dX} (hx:eH u m x) {objs:List Ob} (ho:∀ k,(aF objs k).cls < u.J.length) (aS:List Vl) (f:bU) (said:List Int):gK u' x aS objs f said=gK u x aS objs f said:=by
 unfold gK;rw[e.vM hu hx ho]
theorem Ext.mh (e:Ext u u') (hu:eC u) {c:Int} (hc:c < u.J.length) (pc:Int):∀ l:List mU,mh u' c pc l=mh u c pc l
 | []=>rfl
 | k::r=>by rw[Go.Proofs.mh,Go.Proofs.mh,e.up hu.1 k.cls hc,e.mh hu hc pc r]
theorem Ext.vH (e:Ext u u') (hu:eC u) {c:Int} (hc:c < u.J.length) (n:Int):∀ l:List bU,(∀ f∈l,f.ah < u.methods.length)->vH u' c n l=vH u c n l
 | [],_=>rfl
 | f::r,hl=>by
  rw[Go.Proofs.vH,Go.Proofs.vH,e.mt _ (hl f (by simp)),e.mh hu hc,e.vH hu hc n r λg hg=>hl g (by simp[hg])]
theorem Ext.cK (e:Ext u u') (hu:eC u) {M:bZ} (ho:∀ k,(aF M.objs k).cls < u.J.length) (hf:∀ f∈M.ag,f.ah < u.methods.length) (n:Int):cK u' n M=cK u n M:=by
 unfold Go.Proofs.cK;rw[e.vH hu (ho n) n _ λf hx=>hf f (by simpa using hx)]
theorem Ext.jI (e:Ext u u') {to:Int} (ht:to < u.methods.length) (aS:List Vl) (M:bZ):jI u' to aS M=jI u to aS M:=by
 unfold Go.Proofs.jI gW;rw[e.mt to ht]
theorem Ext.jk (e:Ext u u') (hu:eC u) {m:cB} {x:dX} (hx:eH u m x) {M:bZ} (ho:∀ k,(aF M.objs k).cls < u.J.length) (hf:∀ f∈M.ag,f.ah < u.methods.length) (aS:List Vl) (fs:List bU):jk u' x aS fs M=jk u x aS fs M:=by
 obtain⟨G0,LJ⟩:=aco hx;unfold Go.Proofs.jk;simp only;by_cases MW:x.kind=20
 ·rw[if_pos MW,if_pos MW,e.jI (G0 MW)]
 rw[if_neg MW,if_neg MW,e.up hu.1 x.a (ho _),e.up hu.1 1 (ho _),e.cK hu ho hf];by_cases MX:x.kind=21
 ·rw[if_pos MX,if_pos MX];split
  ·rfl
  ·rename_i o h1;have hoc:o.cls < u.J.length:=by
    unfold ef at h1;repeat' split at h1
    all_goals first
     | (cases h1;done)
     | (simp only[Except.ok.injEq]at h1;rw[<-h1];exact ho _)
   rw[e.find hu.1 x.b hoc,e.jI (to:=Go.Proofs.find u o.cls x.b) (aci u o.cls x.b hu.2.1.1 _)]
 ·rw[if_neg MX,if_neg MX]
theorem Ext.lz (e:Ext u u') (hu:eC u) {M:bZ} {fs:List bU} {f:bU} (ho:∀ k,(aF M.objs k).cls < u.J.length) (gA:M.ag=fs++[f]) (hf:∀ g∈M.ag,0<=g.ah/\g.ah < u.methods.length) (D0:0<=f.pc):lz u' fs f M=lz u fs f M:=by
 have hm:=hf f (by rw[gA];simp);unfold Go.Proofs.lz;simp only;rw[e.mt _ hm.2];by_cases hl:((br u f.ah).code.length:Int)<=f.pc
 ·rw[if_pos hl,if_pos hl]
 rw[if_neg hl,if_neg hl];have iS:f.pc.toNat < (br u f.ah).code.length:=by omega
 have hx:eH u (br u f.ah) ((br u f.ah).code.getD f.pc.toNat dW):=by
  rw[show(br u f.ah).code.getD f.pc.toNat dW=(br u f.ah).code[f.pc.toNat]by rw[List.getD_eq_getElem?_getD,List.getElem?_eq_getElem iS];rfl];exact(hu.br hm).2.1.2.2.2.1 _ (List.getElem_mem iS)
 generalize (br u f.ah).code.getD f.pc.toNat dW=x at hx ⊢;rw[e.take hu hx];cases hT:dB u x f.stack with
 | none=>rfl
 | some tr =>
  obtain⟨aS,rest⟩:=tr;simp only;rw[e.mid hu hx ho,e.jk hu hx (M:={M with ag:=fs++[{f with stack:=rest}]}) ho (λg hg=>by
   rcases List.mem_append.1 hg with hg|hg
   ·exact(hf g (by rw[gA];simp[hg])).2
   ·rw[List.mem_singleton.1 hg];exact hm.2)]
theorem acv {M:bZ} (hu:eC u) (h:zC u M) (k:Int):(aF M.objs k).cls < u.J.length:=by
 have h2:=hu.1.1;unfold aF;rw[List.getD_eq_getElem?_getD];cases hx:M.objs[(k-1).toNat]? with
 | none=>simp[aam];omega
 | some o =>
  simp only[Option.getD_some];rcases(h.objs o (List.mem_of_getElem? hx)).2 with h1|h1<;>omega
theorem Ext.gY (e:Ext u u') (hu:eC u) {M:bZ} (h:zC u M):gY u' M=gY u M:=by
 have ho:=acv hu h;have hf:∀ g∈M.ag,0<=g.ah/\g.ah < u.methods.length:=λg hg=>(h.jy g hg).1;have dD:=λk=>e.cK hu ho (λf hx=>(hf f hx).2) k;unfold Go.Proofs.gY;split
 ·rfl
 cases hl:M.ag.getLast? with
 | none=>rfl
 | some f =>
  have gA:M.ag=M.ag.dropLast++[f]:=by
   have cD:M.ag≠[]:=by intro hx;rw[hx]at hl;cases hl
   have:=List.dropLast_concat_getLast cD;rw[List.getLast?_eq_some_getLast cD]at hl;simp only[Option.some.injEq]at hl;rw[hl]at this;exact this.symm
  simp only;rw[e.lz hu ho gA hf (h.jy f (List.mem_of_getLast? hl)).2.1.1];cases Go.Proofs.lz u M.ag.dropLast f M with
  | ok M'=>rfl
  | error k=>simp only[dD k]
theorem Ext.runM (e:Ext u u') (hu:eC u):∀ n:Nat,n<=200->runM u' n=runM u n
 | 0,_=>by
  show ny u'=ny u;unfold ny;rw[e.mt 0 (by have:=hu.2.1.1;omega)]
 | n+1,hn=>by
  show Go.Proofs.gY u' (Go.Proofs.runM u' n)=Go.Proofs.gY u (Go.Proofs.runM u n);rw[e.runM hu n (by omega),e.gY hu (Fe hu n (by omega)).ok]
end
open Go.Vc Go.Proofs.Tryz
set_option maxRecDepth 100000
set_option maxHeartbeats 4000000
def ab1:cB:=⟨-1,0,[],1,0,[⟨1,7,0⟩,⟨22,0,0⟩],[⟨false,[],[]⟩,⟨false,[],[]⟩],[]⟩
def ab3 (u:aU):aU:=⟨u.J,u.methods++[ab1]⟩
def ab2 (u:aU) (k:Int):aU:=⟨u.J++[⟨k,[4]⟩],u.methods⟩
theorem ab5 {c s:Int} (h0:0<=c):∀(l:List cB) (k:Int),je c s (l++[ab1]) k=je c s l k
 | [],k=>by
  simp only[List.nil_append,je];rw[if_neg];intro h;have:=h.1;simp[ab1]at this;omega
 | m::r,k=>by
  simp only[List.cons_append,je];rw[ab5 h0 r (k+1)]
theorem acb {u:aU} (hu:eC u):Ext u (ab3 u) where
 cls _ _:=rfl
 cl:=Nat.le_refl _
 ml:=by simp[ab3]
 mt k hk:=by
  have:=hu.2.1.1;unfold br ab3;rw[List.getD_eq_getElem?_getD,List.getD_eq_getElem?_getD,List.getElem?_append_left (by omega)]
 own c s k h0:=ab5 h0 _ _
theorem ab6 (u:aU) (k:Int):Ext u (ab2 u k) where
 cls i hi:=by simp only[ab2];rw[List.getElem?_append_left hi]
 cl:=by simp[ab2]
 ml:=Nat.le_refl _
 mt _ _:=rfl
 own _ _ _ _:=rfl
section
variable {u u':aU}
theorem cR.mono {n m:Int} {t:Int} (h:cR n t) (hl:n<=m):cR m t:=by unfold cR at *;omega
theorem jo.mono {n m:Int} {t:Int} (h:jo n t) (hl:n<=m):jo m t:=by unfold jo at *;omega
theorem ab7 (e:Ext u u') (ok:cj u.J) {m:cB} {a jC n:Int} (h8:jC=8->a < u.J.length) (h:bA u m a jC n):bA u' m a jC n:=by
 have hc:=e.cl;have hm:=e.ml;unfold bA at *;by_cases k1:jC=1
 ·rw[if_pos k1]at h ⊢;exact h
 rw[if_neg k1]at h ⊢;by_cases k2:jC=2
 ·rw[if_pos k2]at h ⊢;exact h
 rw[if_neg k2]at h ⊢;by_cases k3:jC=3
 ·rw[if_pos k3]at h ⊢;exact h
 rw[if_neg k3]at h ⊢;by_cases k4:jC=4
 ·rw[if_pos k4]at h ⊢;exact h
 rw[if_neg k4]at h ⊢;by_cases k5:jC=5
 ·rw[if_pos k5]at h ⊢;omega
 rw[if_neg k5]at h ⊢;by_cases k6:jC=6
 ·rw[if_pos k6]at h ⊢;exact h
 rw[if_neg k6]at h ⊢;by_cases k7:jC=7
 ·rw[if_pos k7]at h ⊢;rw[e.mt n h.1.2];exact⟨by omega,h.2⟩
 rw[if_neg k7]at h ⊢;by_cases k8:jC=8
 ·rw[if_pos k8]at h ⊢;rw[e.cX ok (h8 k8)];exact h
 rw[if_neg k8]at h ⊢;exact h
theorem acp (e:Ext u u') (ok:cj u.J) {m:cB} {x:dX} (h:eH u m x):eH u' m x:=by
 have ht:=h.vM;obtain⟨a,b,hw,h1,h2⟩:=h;have hk:(a=8->False)/\(b=8->x.kind=17\/x.kind=18):=by
  have:=vD hw;simp only[jR,List.mem_cons,Prod.mk.injEq,List.not_mem_nil,or_false,eB,Value.agg.injEq,Array.mk.injEq,List.cons.injEq,Value.int.injEq,true_and,and_true]at this;omega
 exact⟨a,b,hw,ab7 e ok (λh=>(hk.1 h).elim) h1,ab7 e ok (λh=>(ht.1 (by have:=hk.2 h;omega)).2) h2⟩
theorem acf {n n':Nat} (hl:n<=n') {l:Int} {s:dH} (h:vz n l s):vz n' l s:=by
 rcases h with h|⟨h1,h2,h3,h4,h5⟩
 ·exact .inl h
 ·exact .inr ⟨h1,h2,h3,λt ht=>(h4 t ht).mono (by omega),λt ht=>⟨(h5 t ht).1,(h5 t ht).2.mono (by omega)⟩⟩
theorem ab8 (e:Ext u u') (ok:cj u.J) {m:cB} (h:qy u m):qy u' m:=by
 obtain⟨⟨a1,a2,a3,a4,a5,a6⟩,⟨b1,b2,b3,b4,b5⟩,c1,c2⟩:=h;have hc:=e.cl;refine⟨⟨by omega,a2,a3.mono (by omega),λt ht=>(a4 t ht).mono (by omega),a5,a6⟩,⟨b1,b2,b3,λx hx=>acp e ok (b4 x hx),λs hs=>acf hc (b5 s hs)⟩,c1,λc Hs=>?_⟩;obtain⟨d1,d2,d3,d4⟩:=c2 c Hs;exact⟨d1,d2,by omega,by rw[e.up ok 1 d3.2];exact d4⟩
theorem ab9 (e:Ext u u') (ok:cj u.J) {m n:cB} (hm:m.cls < u.J.length) (h:qx u m n):qx u' m n:=λh1 h2 h3=>by
 rw[e.up ok n.cls hm];exact h h1 h2 h3
end
theorem acq (u:aU) (ok:cj u.J):qy (ab3 u) ab1:=by
 refine⟨⟨.inl ⟨rfl,rfl⟩,by simp[ab1],.inl rfl,λt ht=>by simp[ab1]at ht,by simp[ab1],by simp[ab1,bX]⟩,⟨by simp[ab1],by simp[ab1],by simp[ab1],λx hx=>?_,λs hs=>?_⟩,by simp[ab1],λc hc=>by simp[ab1]at hc⟩
 ·simp only[ab1,List.mem_cons,List.not_mem_nil,or_false]at hx;rcases hx with rfl|rfl
  ·exact(aI (p:=1) (q:=0) rfl).2 ⟨by simp[bA,isWord],by simp[bA]⟩
  ·exact(aI (p:=0) (q:=0) rfl).2 ⟨by simp[bA],by simp[bA]⟩
 ·simp only[ab1,List.mem_cons,List.not_mem_nil,or_false,or_self]at hs;subst hs;exact .inl ⟨rfl,rfl,rfl⟩
theorem acu {u:aU} (hu:eC u) (hl:u.methods.length < 4):eC (ab3 u):=by
 have e:=acb hu;have h1:=hu.2.1.1;refine⟨hu.1,⟨by simp[ab3],by simp[ab3];omega⟩,by rw[e.mt 0 (by omega)];exact hu.2.2.1,λm hm=>?_,λi j hi hj Y1=>?_⟩
 ·rcases List.mem_append.1 hm with hm|hm
  ·exact ab8 e hu.1 (hu.2.2.2.1 m hm)
  ·rw[List.mem_singleton.1 hm];exact acq u hu.1
 ·have hlen:(ab3 u).methods.length=u.methods.length+1:=by simp[ab3]
  have last:∀ k (hk:k < (ab3 u).methods.length),¬k < u.methods.length->((ab3 u).methods[k]).cls = -1:=λk hk hn=>by
   have:k=u.methods.length:=by omega
   subst this;simp[ab3,ab1]
  by_cases c1:i < u.methods.length
  ·by_cases c2:j < u.methods.length
   ·have e1:(ab3 u).methods[i]=u.methods[i]:=by simp only[ab3];exact List.getElem_append_left c1
    have e2:(ab3 u).methods[j]=u.methods[j]:=by simp only[ab3];exact List.getElem_append_left c2
    rw[e1,e2];exact ab9 e hu.1 (hu.2.2.2.1 _ (List.getElem_mem c1)).cls.2 (hu.2.2.2.2 i j c1 c2 Y1)
   ·intro _ h2;rw[last j hj c2]at h2;omega
  ·intro h2;rw[last i hi c1]at h2;omega
theorem acr {u:aU} (hu:eC u) {k:Int} (hk:0<=k/\k < u.J.length) (hl:u.J.length < 5):eC (ab2 u k):=by
 have e:=ab6 u k;have h2:=hu.1.1;refine⟨⟨by simp[ab2];omega,by simp[ab2];omega,λi hi=>?_⟩,hu.2.1,hu.2.2.1,λm hm=>ab8 e hu.1 (hu.2.2.2.1 m hm),λi j hi hj Y1=>ab9 e hu.1 (hu.2.2.2.1 _ (List.getElem_mem hi)).cls.2 (hu.2.2.2.2 i j hi hj Y1)⟩;have hlen:(ab2 u k).J.length=u.J.length+1:=by simp[ab2]
 by_cases c1:i < u.J.length
 ·have e1:(ab2 u k).J[i]=u.J[i]:=by simp only[ab2];exact List.getElem_append_left c1
  rw[e1,hlen];obtain⟨a1,a2,a3,a4,a5⟩:=hu.1.2.2 i c1;exact⟨λt ht=>(a1 t ht).mono (by omega),a2,a3,a4,a5⟩
 ·have:i=u.J.length:=by omega
  subst this;have e1:(ab2 u k).J[u.J.length]=⟨k,[4]⟩:=by simp[ab2]
  rw[e1];exact⟨λt ht=>by simp at ht;subst ht;exact .inr (.inr (.inl rfl)),λh=>by omega,λh=>by omega,λ_=>by simp only;omega,by simp⟩
theorem yJ.ext {u u':aU} (e:Ext u u') (hu:eC u) (hu':eC u') {x:Int} {R:bZ} (h:yJ u x R):yJ u' x R:=by
 refine⟨λhP=>?_,λhP=>h.2 λhx=>hP ⟨hu',hx.2⟩⟩;have:=hP.2;rw[e.runM hu _ (by omega)];exact h.1 ⟨hu,hP.2⟩
open Go.Vc Go.Proofs.Tryz
set_option maxRecDepth 100000
set_option maxHeartbeats 4000000
theorem acj {h:Heap} {b:Nat}:∀ {n off m:Nat} {xs ys:List Value},eG h b off n=some xs->eG h b (off+n) m=some ys->eG h b off (n+m)=some (xs++ys)
 | 0,off,m,xs,ys,h1,h2=>by
  simp only[eG,Option.some.injEq]at h1;subst h1;simpa using h2
 | n+1,off,m,xs,ys,h1,h2=>by
  obtain⟨y,e1,⟨r,e2,rfl⟩⟩:∃ y,rd h b off=some y/\∃ r,eG h b (off+1) n=some r/\xs=y::r:=by
   simp only[eG]at h1;split at h1
   ·rename_i y r k1 k2;simp only[Option.some.injEq]at h1;exact⟨y,k1,r,k2,h1.symm⟩
   ·cases h1
  have:=acj e2 (m:=m) (ys:=ys) (by rw[show off+1+n=off+(n+1)by omega];exact h2);rw[show n+1+m=(n+m)+1 by omega];simp only[eG,e1,this,List.cons_append]
theorem acd {α:Type} {sz:Nat} {R:Heap->List Value->α->Prop} {h:Heap} {b:Nat}:∀ {l:List α} {off:Nat},(∀ i x,l[i]? = some x->∃ vs,eG h b (off+i*sz) sz=some vs/\R h vs x) ->
  ∃ xs:List (List Value),eG h b off (l.length*sz)=some xs.flatten/\xs.length=l.length/\∀ i (h1:i < xs.length) (h2:i < l.length),R h xs[i] l[i]/\xs[i].length=sz
 | [],off,_=>⟨[],by simp[eG],rfl,λi h1=>by simp at h1⟩
 | a::l,off,hx=>by
  obtain⟨v,e1,r1⟩:=hx 0 a rfl;obtain⟨xs,e2,hl,hr⟩:=acd (l:=l) (off:=off+sz) (λi x hi=>by
   obtain⟨vs,k1,k2⟩:=hx (i+1) x (by simpa using hi);exact⟨vs,by rw[show off+sz+i*sz=off+(i+1)*sz by rw[Nat.add_mul];omega];exact k1,k2⟩)
  refine⟨v::xs,?_,by simp[hl],λi h1 h2=>?_⟩
  ·have:=acj (by simpa using e1) e2;rw[show(a::l).length*sz=sz+l.length*sz by simp[Nat.add_mul];omega];simpa using this
  ·cases i with
   | zero=>exact⟨r1,AP e1⟩
   | succ i=>exact hr i (by simpa using h1) (by simpa using h2)
theorem ack {α:Type} {sz:Nat} {R:Heap->List Value->α->Prop} {h h1:Heap} {p:Option Addr} {n c:Nat} {l:List α} {K:List Value->Prop} (hr:Row sz R h (.slice p n c) l) (hl:h.le h1)
  (hk:∀ xs:List (List Value),xs.length=l.length->(∀ i (h1:i < xs.length) (h2:i < l.length),R h xs[i] l[i]/\xs[i].length=sz)->K xs.flatten):RK h1 p (n*sz) K:=by
 obtain⟨_,p',c',e,_,h3⟩:=hr;simp only[Value.slice.injEq]at e;obtain⟨rfl,rfl,rfl⟩:=e;rw[tG];unfold D8;rcases h3 with rfl|⟨b,off,rfl,hx⟩
 ·exact .inl ⟨.inr (by simp),hk [] rfl λi h1=>by simp at h1⟩
 ·obtain⟨xs,e1,e2,e3⟩:=acd hx;exact .inr ⟨b,off,_,rfl,bK hl e1,hk xs e2 e3⟩
theorem acg {xs:List (List Value)} (h:∀ x∈xs,dG x=true):dG xs.flatten=true:=by
 have app:∀(a b:List Value),dG a=true->dG b=true->dG (a++b)=true:=by
  intro a;induction a with
  | nil=>intro b _ h2;exact h2
  | cons v a ih =>
   intro b h1 h2;simp only[List.cons_append,dG]at h1 ⊢;cases hv:lP v
   ·rw[hv]at h1;cases h1
   ·rw[hv]at h1;exact ih b h1 h2
 induction xs with
 | nil=>rfl
 | cons x xs ih=>exact app _ _ (h x (by simp)) (ih λy hy=>h y (by simp[hy]))
theorem ee.cells {h:Heap} {vs:List Value} {m:cB} (hm:ee h vs m):dG vs=true:=by
 obtain⟨p1,c1,p2,c2,p3,c3,p4,c4,rfl,_⟩:=hm.form;rfl
theorem CG.cells {h:Heap} {vs:List Value} {c:dR} (hm:CG h vs c):dG vs=true:=by
 obtain⟨f,rfl,_,hf⟩:=hm;obtain⟨_,_,rfl,_⟩:=hf.len;rfl
theorem ace {bytes sz:Nat} {zero:List Value} {el:TypeId} {h h1:Heap} {b:Nat} {t:TypeId} {xs:List (List Value)} {vs:List Value} {m:Nat} {K:Value->Heap->Prop} (hl:h.le h1) (hg:h1 b=some (.cells #[] t (0,0))) (U:h b=none) (hv:vs=xs.flatten) (hm:m=xs.length) (hs:xs.length<=1000) (hsz:∀ x∈xs,x.length=sz) (hc:∀ x∈xs,dG x=true) (hz:zero.length=sz) (IC:bytes<=1000)
  (hk:∀ p' c' h2 B',h.le h2->cn sz h2 (.slice p' xs.length c') xs B'->(∀ b∈B',h b=none)->K (.slice p' xs.length c') h2):App bytes sz zero el h1 (some ⟨b,0,none⟩) 0 0 m vs K:=by
 have hmul:xs.length*bytes<=1000*1000:=Nat.mul_le_mul hs IC;refine cY (h0:=h) (xs:=[]) (ys:=xs) (B:=[b]) (dP hg) (by simpa using U) hl hv hm hsz (by rw[hv];exact acg hc) hz (by simp;omega) (by simp;omega) ?_;intro v' h2 B2 k1 k2 k3 k4 k5;rw[List.nil_append]at k2;obtain⟨p',c',rfl,_⟩:=cn.form k2;exact hk p' c' h2 B2 k1 k2 k3
theorem acm (us:List Value) (u:aU) (k:Int) (h:Heap) (hu:dL h us u) (hl:u.J.length<=5) (hk:0<=k/\k < 5):bI prog 21 [.agg ⟨us⟩,.int .i64 k] h λv h'=>h.le h'/\∃ us',v=.agg ⟨us'⟩/\dL h' us' (ab2 u k):=by
 obtain⟨p,cc,q,d,rfl,hcs,fM,jN,hl2⟩:=hu.form;refine bS au func21 F21 acy rfl ?_;conv=>whnf
 refine dI [] rfl (λb h1 U e1 l1 g1=>?_);conv=>whnf
 refine ack hcs l1 (λxs xj hxr=>?_);have Ew:∀ x∈xs,x.length=2:=λx hx=>by
  obtain⟨i,hi,rfl⟩:=List.mem_iff_getElem.1 hx;exact(hxr i hi (by omega)).2
 have hxc:∀ x∈xs,dG x=true:=λx hx=>by
  obtain⟨i,hi,rfl⟩:=List.mem_iff_getElem.1 hx;exact(hxr i hi (by omega)).1.cells
 conv=>whnf
 refine ace (bytes:=32) (sz:=2) (h:=h) l1 g1 U rfl xj.symm (by omega) Ew hxc rfl (by omega) (λp' c' h2 B' l2 o2 f2=>?_);conv=>whnf
 refine dI [.int .i64 4] rfl (λb4 h3 Bd e3 l3 g3=>?_);conv=>whnf
 refine cY (h0:=h) (xs:=xs) (ys:=[[Value.int .i64 k,.slice (some ⟨b4,0,none⟩) 1 1]]) (o2.aG (cC.of_le l3 _)) f2 (Heap.le_trans l2 l3) rfl rfl (by simp) rfl rfl (by simp;omega) (by simp;omega) (λv' h4 B4 k1 k2 k3 k4 k5=>?_);have nb4:b4 ∉ B':=λhx=>by
  obtain⟨o,ho⟩:=o2.in b4 hx;rw[Bd]at ho;cases ho
 have g4:=k4 b4 nb4 (by rw[g3];simp);rw[g3]at g4;have hf:=k2.form;obtain⟨pp,ccc,rfl,_⟩:=hf;have qb:Row 2 CG h4 (.slice pp (xs++[[Value.int .i64 k,.slice (some ⟨b4,0,none⟩) 1 1]]).length ccc) (u.J++[⟨k,[4]⟩]):=cn.Rw (Q:=CG) (A:=u.J++[⟨k,[4]⟩]) k2 (by simp[xj]) (by simp;omega) λi i1 i2=>by
  by_cases c1:i < xs.length
  ·rw[List.getElem_append_left c1,List.getElem_append_left (by omega)];exact(hxr i c1 (by omega)).1.le k1
  ·have:i=xs.length:=by simp at i1;omega
   subst this;rw[List.getElem_append_right (by omega),List.getElem_append_right (by omega)];simp only[Nat.sub_self,List.getElem_cons_zero,xj];refine⟨_,rfl,by unfold cL;simp only;omega,?_⟩;refine⟨by simp,_,1,rfl,by simp,.inr ⟨b4,0,rfl,λj x hj=>?_⟩⟩;cases j with
   | zero =>
    simp at hj;subst hj;exact⟨[.int .i64 4],by simp[eG,rd,g4],rfl,by unfold cL;omega⟩
   | succ j=>simp at hj
 conv=>whnf
 exact⟨k1,_,rfl,_,_,rfl,qb,fM.le k1 λ_ _ hx=>hx.le k1⟩
theorem acs (us:List Value) (u:aU) (h:Heap) (hu:dL h us u) (hl:u.methods.length<=4):bI prog 20 [.agg ⟨us⟩] h λv h'=>h.le h'/\∃ us',v=.agg ⟨us'⟩/\dL h' us' (ab3 u):=by
 obtain⟨p,cc,q,d,rfl,hcs,fM,jN,hl2⟩:=hu.form;refine bS au func20 F20 acx rfl ?_;conv=>whnf
 refine dI [.int .i64 1,.int .i64 7,.int .i64 0,.int .i64 22,.int .i64 0,.int .i64 0] rfl (λbc h1 YM e1 l1 g1=>?_);conv=>whnf
 refine ob (by decide) ?_;conv=>whnf
 refine dI [.bool false,.slice none 0 0,.slice none 0 0,.bool false,.slice none 0 0,.slice none 0 0] rfl (λbs h2 zA e2 l2 g2=>?_);conv=>whnf
 refine dI [] rfl (λb h3 U e3 l3 g3=>?_);conv=>whnf
 have Gl:=Heap.le_trans l1 l2;have eX:h2 b=none:=U;refine ack (fM.le Gl λ_ _ hx=>hx.le Gl) l3 (λxs xj hxr=>?_);have Ew:∀ x∈xs,x.length=8:=λx hx=>by
  obtain⟨i,hi,rfl⟩:=List.mem_iff_getElem.1 hx;exact(hxr i hi (by omega)).2
 have hxc:∀ x∈xs,dG x=true:=λx hx=>by
  obtain⟨i,hi,rfl⟩:=List.mem_iff_getElem.1 hx;exact(hxr i hi (by omega)).1.cells
 conv=>whnf
 refine ace (bytes:=128) (sz:=8) (h:=h2) l3 g3 U rfl xj.symm (by omega) Ew hxc rfl (by omega) (λp' c' h4 B' l4 o4 f4=>?_);conv=>whnf
 refine cY (h0:=h2) (xs:=xs) (ys:=[[Value.int .i64 (-1),.int .i64 0,.slice none 0 0,.int .i64 1,.int .i64 0,.slice (some ⟨bc,0,none⟩) 2 2,.slice (some ⟨bs,0,none⟩) 2 2,.slice none 0 0]]) o4 f4 l4 rfl rfl (by simp) rfl rfl (by simp;omega) (by simp;omega) (λv' h5 B5 k1 k2 k3 k4 k5=>?_);have gc:=k1 _ _ (l2 _ _ g1);have gs:=k1 _ _ g2;have l05:=Heap.le_trans Gl k1;have hf:=k2.form;obtain⟨pp,ccc,rfl,_⟩:=hf;have aca:∀ {α:Type} (sz:Nat) (Q:Heap->List Value->α->Prop),Row sz Q h5 (.slice none 0 0) []:=λ_ _=>⟨by simp,none,0,rfl,by simp,.inl rfl⟩
 have nw:ee h5 [Value.int .i64 (-1),.int .i64 0,.slice none 0 0,.int .i64 1,.int .i64 0,.slice (some ⟨bc,0,none⟩) 2 2,.slice (some ⟨bs,0,none⟩) 2 2,.slice none 0 0] ab1:=by
  refine⟨_,_,_,_,rfl,by unfold cL ab1;decide,by unfold cL ab1;decide,by unfold cL ab1;decide,by unfold cL ab1;decide,aca 1 VH,⟨by simp[ab1],_,2,rfl,by simp[ab1],.inr ⟨bc,0,rfl,λj x hj=>?_⟩⟩,⟨by simp[ab1],_,2,rfl,by simp[ab1],.inr ⟨bs,0,rfl,λj x hj=>?_⟩⟩,aca 4 CI⟩
  ·match j,hj with
   | 0,hj =>
    simp[ab1]at hj;subst hj;exact⟨_,by rw[bP gc 3 _ (by simp)],by simp,by unfold cL;decide,by unfold cL;decide,by unfold cL;decide⟩
   | 1,hj =>
    simp[ab1]at hj;subst hj;exact⟨_,by rw[bP gc 3 _ (by simp)],by simp,by unfold cL;decide,by unfold cL;decide,by unfold cL;decide⟩
   | n+2,hj=>simp[ab1]at hj
  ·match j,hj with
   | 0,hj =>
    simp[ab1]at hj;subst hj;exact⟨_,by rw[bP gs 3 _ (by simp)],_,_,by simp,aca 1 VH,aca 1 VH⟩
   | 1,hj =>
    simp[ab1]at hj;subst hj;exact⟨_,by rw[bP gs 3 _ (by simp)],_,_,by simp,aca 1 VH,aca 1 VH⟩
   | n+2,hj=>simp[ab1]at hj
 have qb:Row 8 ee h5 (.slice pp (xs++[[Value.int .i64 (-1),.int .i64 0,.slice none 0 0,.int .i64 1,.int .i64 0,.slice (some ⟨bc,0,none⟩) 2 2,.slice (some ⟨bs,0,none⟩) 2 2,.slice none 0 0]]).length ccc) (u.methods++[ab1]):=cn.Rw (Q:=ee) (A:=u.methods++[ab1]) k2 (by simp[xj]) (by simp;omega) λi i1 i2=>by
  by_cases c1:i < xs.length
  ·rw[List.getElem_append_left c1,List.getElem_append_left (by omega)];exact(hxr i c1 (by omega)).1.le k1
  ·have:i=xs.length:=by simp at i1;omega
   subst this;rw[List.getElem_append_right (by omega),List.getElem_append_right (by omega)];simp only[Nat.sub_self,List.getElem_cons_zero,xj];exact nw
 conv=>whnf
 repeat' ((first|exact⟨l05,_,rfl,_,_,rfl,hcs.le l05 λ_ _ hx=>hx.le l05,qb⟩|apply And.intro|exact trivial)<;>conv=>whnf)
theorem ach {K:Value->Heap->Prop} {E:List PanicEntry->Heap->Prop} {us:List Value} {u:aU} {x:Int} {h:Heap} {R:bZ} (hu:dL h us u) (xo:yJ u x R) (hK:∀ h' po co pf cf ps cs B,h.le h'->gJ h' (kr po co pf cf ps cs R) R B->K (.agg ⟨kr po co pf cf ps cs R⟩) h'):jA prog 16 [.agg ⟨us⟩,.int .i64 x] h K E :=
 cE (td us u x h hu R xo) λv h' hh=>by
  obtain⟨l,mc,B,rfl,o,_,_⟩:=hh;obtain⟨po,co,pf,cf,ps,cs,rfl⟩:=o.kr;exact⟨l,hK _ _ _ _ _ _ _ B l o⟩
theorem ab4 (v:Value) (p2:Option Addr) (c2 n k:Nat) (h:Heap) (hB:Bytes h v n) (hn:n<=140737488355328) (hk:k<=140737488355328) (hy:Pa h):Pure prog 5 [v,.slice p2 k c2] h (.bool true):=by
 have XL:=hB;obtain⟨p,c,rfl,hc,_⟩:=hB;refine acz au func5 ab0 ok5 rfl ?_;conv=>whnf
 apply ax<;>intro g;all_goals conv=>whnf
 ·exact⟨rfl,Heap.le_refl h⟩
 apply ax<;>intro g;all_goals conv=>whnf
 ·exact⟨rfl,Heap.le_refl h⟩
 refine aD (sD _ n h XL (by omega) hy) ?_;rintro v0 h0 ⟨us,u,x,l0,rfl,hu,x0,x1⟩;have iJ:=hu;obtain⟨p1,c1,q1,d1,rfl,hcs,fM,jN,hl2⟩:=hu.form;obtain⟨R,xo⟩:=Dt u x;have hs:=xo.NZ;conv=>whnf
 refine aD (td _ u x h0 iJ R xo) ?_;rintro v1 h1 ⟨l1,m1,B1,rfl,o1,n1,f1⟩;obtain⟨po,co,pf,cf,pw,cw,rfl⟩:=o1.kr;unfold kr aB at o1 ⊢;conv=>whnf
 refine cE (mM _ u x h1 (iJ.le l1) R xo) (λv2 h2 hh=>?_);obtain⟨l2,m2,B2,rfl,o2,n2,f2⟩:=hh;obtain⟨_,_,_,_,_,_,rfl⟩:=o2.kr;refine⟨l2,?_⟩;unfold kr aB at o2 ⊢;have oq:=(o1.aG (cC.of_le l2 _)).pY hs;conv=>whnf
 refine aT (oD _ _ R h2 oq (o2.pY hs)) ?_;have yw:=iJ.le (Heap.le_trans l1 l2);have Gl:=Heap.le_trans l0 (Heap.le_trans l1 l2);conv=>whnf
 refine acn (rA _ u h2 yw) (λhU=>?_) (λhU=>?_);all_goals conv=>whnf
 ·have h2c:=hU.1.1;have h5c:=hU.1.2.1;have h4m:=hU.2.1.2;have t1:=Gs (a:=(k:Int)) (b:=u.J.length) (by omega) (by omega);have below:∀ g:Heap,h2.le g->u.J.length≠5->∀ {K:Value->Heap->Prop} {E:List PanicEntry->Heap->Prop},(∀ g' a b',g.le g'->dL g' [a,b'] (ab2 u ((k:Int).tmod u.J.length))->K (.agg #[a,b']) g')->jA prog 21 [.agg #[.slice p1 u.J.length c1,.slice q1 u.methods.length d1],.int .i64 ((k:Int).tmod u.J.length)] g K E:=λg lg cD K E hK =>
   cE (acm _ u _ g (yw.le lg) (by omega) (by omega)) λv h' hh=>by
    obtain⟨l,us',rfl,hu'⟩:=hh;obtain⟨a,b',rfl,_⟩:=hu';exact⟨l,hK _ _ _ l ⟨a,b',rfl,‹_›⟩⟩
  have more:∀ {K:Value->Heap->Prop} {E:List PanicEntry->Heap->Prop},(∀ g' a b',h2.le g'->dL g' [a,b'] (ab3 u)->K (.agg #[a,b']) g')->jA prog 20 [.agg #[.slice p1 u.J.length c1,.slice q1 u.methods.length d1]] h2 K E:=λ{K E} hK =>
   cE (acs _ u h2 yw (by omega)) λv h' hh=>by
    obtain⟨l,us',rfl,hu'⟩:=hh;obtain⟨a,b',rfl,_⟩:=hu';exact⟨l,hK _ _ _ l ⟨a,b',rfl,‹_›⟩⟩
  have wC:∀ g:Heap,h2.le g->RH g _ R:=λg lg=>(o1.aG (cC.of_le (Heap.le_trans l2 lg) _)).pY hs;have isB:=λcD=>yJ.ext (ab6 u ((k:Int).tmod u.J.length)) hU (acr hU t1 cD) xo;have isM:=λcD=>yJ.ext (acb hU) hU (acu hU cD) xo;apply ax<;>intro gm;all_goals conv=>whnf
  ·refine more (λg3 a3 b3 l3 hu3=>?_);conv=>whnf
   refine ach hu3 (isM (by omega)) (λg4 q1 q2 q3 q4 q5 q6 B4 l4 o4=>?_);have lg:=Heap.le_trans l3 l4;unfold kr aB at o4 ⊢;conv=>whnf
   refine aT (oD _ _ R g4 (o4.pY hs) (wC g4 lg)) ?_;conv=>whnf
   apply ax<;>intro gc;all_goals conv=>whnf
   ·exact⟨rfl,Heap.le_trans Gl lg⟩
   refine aq ?_;conv=>whnf
   refine below g4 lg (by omega) (λg5 a5 b5 l5 hu5=>?_);conv=>whnf
   refine ach hu5 (isB (by omega)) (λg6 r1 r2 r3 r4 r5 r6 B6 l6 o6=>?_);have lg6:=Heap.le_trans lg (Heap.le_trans l5 l6);unfold kr aB at o6 ⊢;conv=>whnf
   refine aT (oD _ _ R g6 (o6.pY hs) (wC g6 lg6)) ?_;conv=>whnf
   exact⟨rfl,Heap.le_trans Gl lg6⟩
  ·skip
   apply ax<;>intro gc;all_goals conv=>whnf
   ·exact⟨rfl,Heap.le_trans Gl (Heap.le_refl h2)⟩
   refine aq ?_;conv=>whnf
   refine below h2 (Heap.le_refl h2) (by omega) (λg5 a5 b5 l5 hu5=>?_);conv=>whnf
   refine ach hu5 (isB (by omega)) (λg6 r1 r2 r3 r4 r5 r6 B6 l6 o6=>?_);have lg6:=Heap.le_trans (Heap.le_refl h2) (Heap.le_trans l5 l6);unfold kr aB at o6 ⊢;conv=>whnf
   refine aT (oD _ _ R g6 (o6.pY hs) (wC g6 lg6)) ?_;conv=>whnf
   exact⟨rfl,Heap.le_trans Gl lg6⟩
 ·skip
  refine cE (mM _ u x h2 yw R xo) (λv3 h3 hh=>?_);obtain⟨l3,m3,B3,rfl,o3,n3,f3⟩:=hh;obtain⟨_,_,_,_,_,_,rfl⟩:=o3.kr;refine⟨l3,?_⟩;unfold kr aB at o3 ⊢;conv=>whnf
  refine aT (oD _ _ R h3 ((o1.aG (cC.of_le (Heap.le_trans l2 l3) _)).pY hs) (o3.pY hs)) ?_;conv=>whnf
  exact⟨rfl,Heap.le_trans Gl l3⟩
theorem FnRunMethod_c (v w:Value) (n k:Nat) (h:Heap) (hB:Bytes h v n) (hn:n<=140737488355328) (hW:Bytes h w k) (hk:k<=140737488355328):Pure prog 5 [v,w] h (.bool true):=by
 obtain⟨hs,hl,U,hy⟩:=wO hB;obtain⟨p2,c2,rfl,_⟩:=hW;exact DU hl (ab4 v p2 c2 n k hs U hn hk hy)
end Go.Proofs
