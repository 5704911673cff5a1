/- Lemmas. -/
import Derived.Orders
import Derived.Below
import Derived.Laws.StructEq
import Derived.Laws.Cover3
import Derived.Defers
import Derived.Recover
import Derived.Test.YtcenghjfipkgmaaGreatProg
import Derived.Test.YtcenghjfipkgmaaGreatMb1
set_option linter.unusedSimpArgs false
set_option linter.unusedVariables false
namespace Go.Vc
set_option linter.constructorNameAsVariable false
set_option linter.unusedVariables false
set_option linter.unusedSimpArgs false
variable {D:List Deferred} {P:Program} {S:oD} {F:Fs} {o:Oper} {e:Env} {h:Heap} {K:Slot->Bx->Heap->Prop} {E:List PanicEntry->Heap->Prop}
theorem Heap.le_refl (h:Heap):h.le h:=λ_ _ x=>x
theorem Heap.le_trans {a b c:Heap} (x:a.le b) (y:b.le c):a.le c:=λk o hk=>y k o (x k o hk)
theorem Heap.Cj {b:Nat} (o:Obj) (hb:h b=none):h.le (h.set b o):=by
 intro c x hc;simp only[Heap.set];split
 ·rename_i hh;subst hh;rw[hb]at hc;cases hc
 ·exact hc
theorem lz {ti:TI} {v:Value} {Kc:List Value->Prop} (hx:mq ti v Kc):∃ vs,Kc vs/\∀ Kd:List Value->Prop,Kd vs->mq ti v Kd:=by
 unfold mq at hx ⊢;cases jI:ti.agg with
 | true =>
  simp only[jI]at hx;cases v with
  | agg cs =>
   simp only[bL]at hx ⊢;split at hx
   ·rename_i hl;exact⟨_,hx,λKd hk=>by (try simp only[hl]);exact hk⟩
   ·exact hx.elim
  | _=>exact hx.elim
 | false =>
  simp only[jI]at hx;simp only;split at hx
  ·exact⟨_,hx,λKd hk=>hk⟩
  ·exact hx.elim
theorem oH {sW:Nat->Option TI}:∀(ps:List (Nat × Operand)) (Kp:List (Nat × List Value)->Prop),parts e sW ps Kp ->
  ∃ qs,Kp qs/\∀ Kd:List (Nat × List Value)->Prop,Kd qs->parts e sW ps Kd
 | [],Kp,hx=>⟨[],hx,λ_ hk=>hk⟩
 | (i,x)::ps,Kp,hx=>by
  simp only[parts]at hx;split at hx
  ·rename_i v ti hv dj;obtain⟨vs,hx,h1⟩:=lz hx;obtain⟨qs,hx,h2⟩:=oH ps _ hx;refine⟨_,hx,λKd hk=>?_⟩;simp only[parts,hv,dj];exact h1 _ (h2 _ hk)
  ·exact hx.elim
theorem oI:∀(xs:List Operand) (Kc:List Value->Prop),aW e xs Kc->∃ vs,Kc vs/\∀ Kd:List Value->Prop,Kd vs->aW e xs Kd
 | [],Kc,hx=>⟨[],hx,λ_ hk=>hk⟩
 | x::xs,Kc,hx=>by
  simp only[aW]at hx;split at hx
  ·rename_i v hv;obtain⟨vs,hx,h1⟩:=oI xs _ hx;exact⟨_,hx,λKd hk=>by simp only[aW,hv];exact h1 _ hk⟩
  ·exact hx.elim
theorem Og {a:Option Addr} {cap l size:Nat} {Kc:Option Addr->Prop} (hx:Sub a cap l size Kc):∃ oa,Kc oa/\∀ Kd:Option Addr->Prop,Kd oa->Sub a cap l size Kd:=by
 rw[BQ]at hx ⊢;unfold J5 at hx ⊢;by_cases hh:cap=l
 ·exact⟨a,hx a (λhn=>absurd hh hn) (λ_=>rfl),λKd hk oa _ h2=>by rw[h2 hh];exact hk⟩
 ·exact⟨_,hx _ (λ_=>rfl) (λhe=>absurd he hh),λKd hk oa h1 _=>by rw[h1 hh];exact hk⟩
theorem xu {size:Nat} {a:Option Addr} {cap H:Nat} {lo:Option Slot} {Kc:Value->Prop} (hx:pN size a cap lo H Kc):∃ v,Kc v/\∀ Kd:Value->Prop,Kd v->pN size a cap lo H Kd:=by
 unfold pN at hx ⊢;split at hx
 ·exact⟨_,hx,λ_ hk=>hk⟩
 ·obtain⟨h1,hx⟩:=de.1 hx;obtain⟨oa,hx,h2⟩:=Og hx;exact⟨_,hx,λKd hk=>de.2 ⟨h1,h2 _ hk⟩⟩
 ·exact hx.elim
theorem xw {size:Nat} {a:Option Addr} {n cap:Nat} {lo hi:Option Slot} {Kc:Value->Prop} (hx:pO size a n cap lo hi Kc):∃ v,Kc v/\∀ Kd:Value->Prop,Kd v->pO size a n cap lo hi Kd:=by
 unfold pO at hx ⊢;split at hx
 ·exact xu hx
 ·obtain⟨h1,hx⟩:=de.1 hx;obtain⟨v,hx,h2⟩:=xu hx;exact⟨v,hx,λKd hk=>de.2 ⟨h1,h2 Kd hk⟩⟩
 ·exact hx.elim
theorem Oh {t:TypeId} {ps:List (Nat × Operand)} {Kc:Value->Prop} (hx:Ry S t ps e Kc):∃ v,Kc v/\∀ Kd:Value->Prop,Kd v->Ry S t ps e Kd:=by
 unfold Ry at hx ⊢;split at hx
 ·rename_i ti dj;split at hx
  ·exact hx.elim
  ·rename_i pl sW fV;obtain⟨qs,hx,h1⟩:=oH _ _ hx;split at hx
   ·rename_i cs hcs;rw[bL]at hx;refine⟨_,hx,λKd hk=>?_⟩;try simp only[dj,fV]
    refine h1 _ ?_;simp only[hcs,bL];exact hk
   ·exact hx.elim
 ·exact hx.elim
theorem yH {op:BinOp} {k:IntKind} {m n:Int} {Kc:Value->Prop} (hx:wg op k m n Kc False):∃ v,Kc v/\∀ Kd:Value->Prop,Kd v->wg op k m n Kd False:=by
 cases op<;>simp only[wg]at hx ⊢<;>first
  | exact hx.elim
  | exact⟨_,hx,λ_ hk=>hk⟩
  | exact⟨_,jq.1 hx,λ_ hk=>jq.2 hk⟩
  | (obtain⟨h1,hx⟩:=de.1 hx;exact⟨_,jq.1 hx,λ_ hk=>de.2 ⟨h1,jq.2 hk⟩⟩)
  | (obtain⟨h1,hx⟩:=de.1 hx;exact⟨_,hx,λ_ hk=>de.2 ⟨h1,hk⟩⟩)
inductive eD where
 | P|L|R|X|A|W
def cls (F:Fs) (o:Oper):eD :=
 match o.op with
 | .alloc _ | .box .. | .buildSlice ..=>match JR F.L o.dst with
  | true=>.P
  | false=>.X
 | .load ..=>match JR F.LL o.dst with
  | true=>.L
  | false=>.R
 | .makeSlice ..=>.X
 | .call {callee:=.value f,.. }=>match Rx F f with
  | true=>.A
  | false=>.X
 | .call {callee:=.builtin .append,.. }=>.A
 | op=>match J6 op with
  | true=>.W
  | false=>.P
theorem DH {d:Option Nat} (hh:JR F.L d=true):∃ d',isLocal F d=some d'/\d=some d':=by
 cases d with
 | none=>cases hh
 | some d=>simp only[JR]at hh;exact⟨d,by simp[isLocal,hh],rfl⟩
theorem yI {t:TypeId} {d:Option Nat} {cs:List Value} (hl:JR F.L d=true) (hx:newVar F t d cs e h K) :
  ∃ s bx,K s bx h/\∀(h':Heap) (K':Slot->Bx->Heap->Prop),K' s bx h'->newVar F t d cs e h' K':=by
 obtain⟨d',h1,h2⟩:=DH hl;unfold newVar at hx ⊢;simp only[h1]at hx ⊢;split at hx
 ·rename_i hb;rw[bL]at hx;exact⟨_,_,hx,λh' K' hk=>by simp only[hb,bL];exact hk⟩
 ·exact hx.elim
theorem FO {t:TypeId} {d:Option Nat} {n:Nat} {cs:List Value} (hl:JR F.L d=true) (hx:newRow F t d n cs e h K) :
  ∃ s bx,K s bx h/\∀(h':Heap) (K':Slot->Bx->Heap->Prop),K' s bx h'->newRow F t d n cs e h' K':=by
 obtain⟨d',h1,h2⟩:=DH hl;unfold newRow at hx ⊢;simp only[h1]at hx ⊢;split at hx
 ·rename_i hb;rw[bL]at hx;exact⟨_,_,hx,λh' K' hk=>by simp only[hb,bL];exact hk⟩
 ·exact hx.elim
theorem AK {ti:TI} {u off:Nat} (hx:load ti (.l u off) e h K):∃ s,K s none h/\∀(h':Heap) (K':Slot->Bx->Heap->Prop),K' s none h'->load ti (.l u off) e h' K':=by
 unfold load at hx ⊢;simp only at hx ⊢;split at hx
 ·rename_i vs jB;try simp only[jB]
  split at hx
  ·rename_i jI;rw[bL]at hx;exact⟨_,hx,λh' K' hk=>by first|exact(bL _ _).2 hk|(simp only[jI,bL];exact hk)⟩
  ·rename_i jI;split at hx
   ·exact⟨_,hx,λh' K' hk=>by first|exact hk|(simp only[jI];exact hk)⟩
   ·exact hx.elim
 ·exact hx.elim
theorem jr {h':Heap} (hl:h.le h') {b:Nat}:∀(n off:Nat) (vs:List Value),fj h b off n=some vs->fj h' b off n=some vs:=by
 have RL:∀ off v,rd h b off=some v->rd h' b off=some v:=by
  intro off v hv;unfold rd at hv ⊢;cases hb:h b with
  | none=>rw[hb]at hv;cases hv
  | some o=>rw[hb]at hv;rw[hl b o hb];exact hv
 intro n;induction n with
 | zero=>intro off vs hv;exact hv
 | succ n ih =>
  intro off vs hv;simp only[fj]at hv ⊢;split at hv
  ·rename_i v r h1 h2;rw[RL _ _ h1,ih _ _ h2];exact hv
  ·cases hv
theorem DI {ti:TI} {x:Slot} (hx:load ti x e h K):∃ s,K s none h/\∀(h':Heap) (K':Slot->Bx->Heap->Prop),h.le h'->K' s none h'->load ti x e h' K':=by
 cases x with
 | l u off =>
  obtain⟨s,h1,h2⟩:=AK hx;exact⟨s,h1,λh' K' _ hk=>h2 h' K' hk⟩
 | r u k=>exact hx.elim
 | x=>exact hx.elim
 | v v =>
  unfold load at hx ⊢;split at hx
  ·rename_i hh;cases hh
  ·rename_i b off hh;cases hh
   split at hx
   ·rename_i jI;rw[uG]at hx;unfold Fy at hx;obtain⟨vs,jB,hx⟩:=hx;refine⟨_,hx,λh' K' hl hk=>?_⟩;try simp only[jI]
    rw[uG];unfold Fy;exact⟨vs,jr hl _ _ _ jB,hk⟩
   ·rename_i jI;split at hx
    ·rename_i hsz;rw[yq]at hx;unfold Rw at hx;obtain⟨v,hv,hx⟩:=hx;refine⟨_,hx,λh' K' hl hk=>?_⟩;try simp only[jI,hsz]
     rw[yq];unfold Rw;have:=jr hl (b:=b) 1 off [v] (by simp[fj,hv]);simp only[fj]at this;split at this
     ·rename_i v' r h1 h2;simp only[Option.some.injEq,List.cons.injEq]at this;exact⟨v,by rw[h1,this.1],hk⟩
     ·cases this
    ·exact hx.elim
  ·exact hx.elim
theorem DJ (hx:Am P o e h true K):∃ v,K (.v v) none h/\∀(h':Heap) (K':Slot->Bx->Heap->Prop),K' (.v v) none h'->Am P o e h' true K':=by
 unfold Am at hx;rw[qR]at hx;unfold yt at hx;obtain⟨hv,v,hK,hr⟩:=hx;exact⟨v,hK,λh' K' hk=>by unfold Am;rw[qR];unfold yt;exact⟨hv,v,hk,hr⟩⟩
theorem Kj {e':Env} (hg:∀ y∈o.op.operands,e'.get y=e.get y) (hx:Am P o e h true K):Am P o e' h true K:=by
 unfold Am at hx ⊢;rw[qR]at hx ⊢;unfold yt at hx ⊢;obtain⟨hv,v,hK,hr⟩:=hx;exact⟨λx hm=>by rw[hg x hm];exact hv x hm,v,hK,λρ wv w=>hr ρ (λx hm=>by rw[<-hg x hm];exact wv x hm) w⟩
theorem Kk (hc:cls F o=.P\/cls F o=.L) (hx:exec P S F true o e h K E) :
  ∃ s bx,K s bx h/\∀(h':Heap) (K':Slot->Bx->Heap->Prop) (E':List PanicEntry->Heap->Prop),K' s bx h'->exec P S F true o e h' K' E':=by
 obtain⟨dst,op,ty,pos,after,guard⟩:=o;cases op with
 | move y =>
  simp only[exec]at hx ⊢;cases hy:e.get y<;>simp only[hy]at hx<;>first|exact hx.elim|exact⟨_,_,hx,λ_ _ _ hk=>hk⟩
 | assign y =>
  simp only[exec]at hx ⊢;cases hy:e.get y<;>simp only[hy]at hx<;>first|exact hx.elim|exact⟨_,_,hx,λ_ _ _ hk=>hk⟩
 | pick c y z =>
  simp only[exec]at hx ⊢;split at hx
  ·rename_i t ht;cases t with
   | true =>
    have hx:(match e.get y with | .x=>False|s=>K s none h):=hx;cases hy:e.get y<;>simp only[hy]at hx<;>first|exact hx.elim|exact⟨_,_,hx,λ_ _ _ hk=>by (try simp only[ht,hy]);exact hk⟩
   | false =>
    have hx:(match e.get z with | .x=>False|s=>K s none h):=hx;cases hy:e.get z<;>simp only[hy]at hx<;>first|exact hx.elim|exact⟨_,_,hx,λ_ _ _ hk=>by (try simp only[ht,hy]);exact hk⟩
  ·exact hx.elim
 | alloc t =>
  have hl:JR F.L dst=true:=by
   simp only[cls]at hc;split at hc
   ·assumption
   ·simp at hc
  simp only[exec]at hx ⊢;split at hx
  ·rename_i ti dj;obtain⟨s,bx,h1,h2⟩:=yI hl hx;exact⟨s,bx,h1,λh' K' E' hk=>by (try simp only[dj]);exact h2 h' K' hk⟩
  ·exact hx.elim
 | box t y =>
  have hl:JR F.L dst=true:=by
   simp only[cls]at hc;split at hc
   ·assumption
   ·simp at hc
  simp only[exec]at hx ⊢;split at hx
  ·rename_i v ti hv dj;obtain⟨cs,hx,h3⟩:=lz hx;obtain⟨s,bx,h1,h2⟩:=yI hl hx;exact⟨s,bx,h1,λh' K' E' hk=>by (try simp only[hv,dj]);exact h3 _ (h2 h' K' hk)⟩
  ·exact hx.elim
 | build t ps =>
  simp only[exec]at hx ⊢;obtain⟨v,hx,h1⟩:=Oh hx;exact⟨_,_,hx,λh' K' E' hk=>h1 _ hk⟩
 | buildSlice t k ps =>
  have hl:JR F.L dst=true:=by
   simp only[cls]at hc;split at hc
   ·assumption
   ·simp at hc
  simp only[exec]at hx ⊢;split at hx
  ·rename_i el dj;split at hx
   ·rename_i te ju;split at hx
    ·rename_i hle;obtain⟨qs,hx,h3⟩:=oH _ _ hx;split at hx
     ·rename_i cs hcs;obtain⟨s,bx,h1,h2⟩:=FO hl hx;refine⟨s,bx,h1,λh' K' E' hk=>?_⟩;try simp only[dj,ju,hle]
      refine h3 _ ?_;try simp only[hcs]
      exact h2 h' K' hk
     ·exact hx.elim
    ·exact hx.elim
   ·exact hx.elim
  ·exact hx.elim
 | load t y =>
  have hl:JR F.LL dst=true:=by
   simp only[cls]at hc;split at hc
   ·assumption
   ·simp at hc
  simp only[exec]at hx ⊢;split at hx
  ·rename_i ti dj;simp only[hl]at hx;split at hx
   ·rename_i u off hy;obtain⟨s,h1,h2⟩:=AK hx;exact⟨s,none,h1,λh' K' E' hk=>by (try simp only[dj,hl,hy]);exact h2 h' K' hk⟩
   ·exact hx.elim
  ·exact hx.elim
 | nilCheck y =>
  simp only[exec]at hx ⊢;split at hx
  ·rename_i hy;exact⟨_,_,hx,λ_ _ _ hk=>by (try simp only[hy]);exact hk⟩
  ·rename_i hy;exact⟨_,_,hx,λ_ _ _ hk=>by (try simp only[hy]);exact hk⟩
  ·rename_i hy;exact⟨_,_,hx,λ_ _ _ hk=>by (try simp only[hy]);exact hk⟩
  ·rename_i hy;exact⟨_,_,hx,λ_ _ _ hk=>by (try simp only[hy]);exact hk⟩
  ·exact hx.elim
 | binOp op t y z u =>
  simp only[exec]at hx ⊢;split at hx
  ·rename_i j i k m hy hz;split at hx
   ·rename_i Hp;obtain⟨v,hx,h1⟩:=yH hx;exact⟨_,_,hx,λh' K' E' hk=>by (try simp only[hy,hz,Hp]);exact h1 _ hk⟩
   ·exact hx.elim
  ·rename_i b c hy hz;split at hx
   ·rename_i dj;split at hx
    ·exact⟨_,_,hx,λh' K' E' hk=>by (try simp only[hy,hz,dj]);exact hk⟩
    ·exact⟨_,_,hx,λh' K' E' hk=>by (try simp only[hy,hz,dj]);exact hk⟩
    ·exact hx.elim
   ·exact hx.elim
  ·rename_i h1 h2;obtain⟨v,hx,h1⟩:=DJ hx;exact⟨_,_,hx,λh' K' E' hk=>h1 h' K' hk⟩
 | unOp op t y =>
  simp only[exec]at hx ⊢;split at hx
  ·rename_i b hy;exact⟨_,_,hx,λ_ _ _ hk=>by (try simp only[hy]);exact hk⟩
  ·rename_i k m hy;rw[jq]at hx;exact⟨_,_,hx,λ_ _ _ hk=>by (try simp only[hy,jq]);exact hk⟩
  ·exact hx.elim
 | convert s t y =>
  simp only[exec]at hx ⊢;split at hx
  ·rename_i ti tj k m dj Nu hy;split at hx
   ·rename_i k' hd;rw[jq]at hx;exact⟨_,_,hx,λ_ _ _ hk=>by (try simp only[dj,Nu,hy,hd,jq]);exact hk⟩
   ·exact hx.elim
  ·exact hx.elim
 | makeInterface t y =>
  simp only[exec]at hx ⊢;split at hx
  ·rename_i ti v dj hy;split at hx
   ·exact hx.elim
   ·rename_i cH;refine⟨_,_,hx,λ_ _ _ hk=>?_⟩;try simp only[dj,hy]
    cases hd:ti.d<;>first|exact hk|exact absurd hd cH
  ·exact hx.elim
 | makeFunc f fs cs =>
  simp only[exec]at hx ⊢;obtain⟨vs,hx,h1⟩:=oI _ _ hx;obtain⟨us,hx,h2⟩:=oI _ _ hx;exact⟨_,_,hx,λ_ _ _ hk=>h1 _ (h2 _ hk)⟩
 | slice t y lo hi mx =>
  simp only[exec]at hx ⊢;split at hx
  ·rename_i el dj;split at hx
   ·rename_i te p m cap ju hy;obtain⟨v,hx,h1⟩:=xw hx;exact⟨_,_,hx,λh' K' E' hk=>by (try simp only[dj,ju,hy]);exact h1 _ hk⟩
   ·exact hx.elim
  ·exact hx.elim
 | fieldAddr t y i =>
  simp only[exec]at hx ⊢;split at hx
  ·rename_i fs dj;split at hx
   ·rename_i k u hf;split at hx
    ·rename_i hy;exact⟨_,_,hx,λ_ _ _ hk=>by (try simp only[dj,hf,hy]);exact hk⟩
    ·rename_i hy;exact⟨_,_,hx,λ_ _ _ hk=>by (try simp only[dj,hf,hy]);exact hk⟩
    ·exact hx.elim
   ·exact hx.elim
  ·exact hx.elim
 | field t y i =>
  simp only[exec]at hx ⊢;split at hx
  ·rename_i fs dj;split at hx
   ·rename_i k u hf;split at hx
    ·rename_i cs tu hy Cb;split at hx
     ·rename_i vs jB;cases jI:tu.agg with
      | true =>
       simp only[jI,bL]at hx;exact⟨_,_,hx,λ_ _ _ hk=>by (try simp only[dj,hf,hy,Cb,jB,jI,bL]);exact hk⟩
      | false =>
       simp only[jI]at hx;split at hx
       ·exact⟨_,_,hx,λ_ _ _ hk=>by (try simp only[dj,hf,hy,Cb,jB,jI]);exact hk⟩
       ·exact hx.elim
     ·exact hx.elim
    ·exact hx.elim
   ·exact hx.elim
  ·exact hx.elim
 | indexAddr t y z =>
  simp only[exec]at hx ⊢;split at hx
  ·rename_i k i hz;split at hx
   ·rename_i el dj;split at hx
    ·rename_i ju hy;obtain⟨h1,hx⟩:=de.1 hx;rw[su]at hx;unfold Du at hx;obtain⟨b,off,hp,hx⟩:=hx;exact⟨_,_,hx,λ_ _ _ hk=>by (try simp only[hz,dj,ju,hy]);exact de.2 ⟨h1,by rw[su];unfold Du;exact⟨b,off,hp,hk⟩⟩⟩
    ·rename_i ju hy;obtain⟨h1,hx⟩:=de.1 hx;exact⟨_,_,hx,λ_ _ _ hk=>by (try simp only[hz,dj,ju,hy]);exact de.2 ⟨h1,hk⟩⟩
    ·exact hx.elim
   ·rename_i el dj;split at hx
    ·rename_i ju hy;obtain⟨h1,hx⟩:=de.1 hx;exact⟨_,_,hx,λ_ _ _ hk=>by (try simp only[hz,dj,ju,hy]);exact de.2 ⟨h1,hk⟩⟩
    ·rename_i ju hy;obtain⟨h1,hx⟩:=de.1 hx;exact⟨_,_,hx,λ_ _ _ hk=>by (try simp only[hz,dj,ju,hy]);exact de.2 ⟨h1,hk⟩⟩
    ·exact hx.elim
   ·exact hx.elim
  ·exact hx.elim
 | index t y z =>
  simp only[exec]at hx ⊢;split at hx
  ·rename_i hy hz;split at hx
   ·rename_i dj;obtain⟨h1,hx⟩:=de.1 hx;exact⟨_,_,hx,λ_ _ _ hk=>by (try simp only[hy,hz,dj]);exact de.2 ⟨h1,hk⟩⟩
   ·exact hx.elim
  ·exact hx.elim
 | extract y i =>
  simp only[exec]at hx ⊢;split at hx
  ·rename_i vs hy;split at hx
   ·rename_i v hv;exact⟨_,_,hx,λ_ _ _ hk=>by (try simp only[hy,hv]);exact hk⟩
   ·exact hx.elim
  ·exact hx.elim
 | call c =>
  obtain⟨callee,args,ts⟩:=c;cases callee with
  | value f=>simp only[cls]at hc;split at hc<;>simp at hc
  | invoke r m=>simp[cls,J6]at hc
  | builtin b =>
   cases b with
   | len =>
    simp only[exec]at hx ⊢;split at hx
    ·rename_i y hargs;split at hx
     ·rename_i hy;split at hx
      ·rename_i dj;exact⟨_,_,hx,λ_ _ _ hk=>by (try simp only[hargs,hy,dj]);exact hk⟩
      ·exact hx.elim
     ·rename_i hy;split at hx
      ·rename_i dj;exact⟨_,_,hx,λ_ _ _ hk=>by (try simp only[hargs,hy,dj]);exact hk⟩
      ·exact hx.elim
     ·exact hx.elim
    ·exact hx.elim
   | append=>simp[cls]at hc
   | max =>
    simp only[exec]at hx ⊢;split at hx
    ·split at hx
     ·split at hx
      ·exact⟨_,_,hx,λ_ _ _ hk=>by first|exact hk|(simp only[*];exact hk)⟩
      ·exact hx.elim
     ·exact hx.elim
    ·exact hx.elim
   | min =>
    simp only[exec]at hx ⊢;split at hx
    ·split at hx
     ·split at hx
      ·exact⟨_,_,hx,λ_ _ _ hk=>by first|exact hk|(simp only[*];exact hk)⟩
      ·exact hx.elim
     ·exact hx.elim
    ·exact hx.elim
   | cap =>
    simp only[exec]at hx ⊢;split at hx
    ·split at hx
     ·split at hx
      ·exact⟨_,_,hx,λ_ _ _ hk=>by first|exact hk|(simp only[*];exact hk)⟩
      ·exact hx.elim
     ·exact hx.elim
    ·exact hx.elim
   | _=>simp[cls,J6]at hc
 | _=>simp[cls,J6]at hc
def Slot.refs:Slot->Nat->Prop
 | .l t _,u=>t=u
 | .r t _,u=>t=u
 | _,_=>False
structure ya (F:Fs) (o:Oper) (e:Env) (h:Heap) (s:Slot) (bx:Bx) (h':Heap):Prop where
 fb:∀ u cs,bx=some (u,cs)->(o.dst=some u/\e.b u=none)\/(cls F o=.W/\∃ y∈o.op.operands,(e.get y).refs u)
 fs:∀ u,s.refs u->(∃ y∈o.op.operands,(e.get y).refs u)\/(∃ cs,bx=some (u,cs))
 le:cls F o≠.W->cls F o≠.A->h.le h'
structure Qf (F:Fs) (o:Oper) (e e':Env):Prop where
 get:∀ y∈o.op.operands,e'.get y=e.get y
 box:cls F o=.P\/∀ y∈o.op.operands,∀ u,(e.get y).refs u->e'.b u=e.b u
 dst:∀ d,o.dst=some d->e.b d=none->e'.b d=none
theorem ya.plain {x:Value}:ya F o e h (.v x) none h:=⟨(λ_ _ hh=>by cases hh),λ_ hh=>hh.elim,λ_ _=>Heap.le_refl h⟩
theorem ya.same {s:Slot} {y:Operand} (hy:y∈o.op.operands) (hs:e.get y=s):ya F o e h s none h :=
 ⟨(λ_ _ hh=>by cases hh),λu hh=>.inl ⟨y,hy,by rw[hs];exact hh⟩,λ_ _=>Heap.le_refl h⟩
theorem wz {e':Env} {sW:Nat->Option TI}:∀(ps:List (Nat × Operand)) (Kp:List (Nat × List Value)->Prop),(∀ p∈ps,e'.get p.2=e.get p.2)->parts e sW ps Kp->parts e' sW ps Kp
 | [],Kp,_,hx=>hx
 | (i,x)::ps,Kp,hg,hx=>by
  simp only[parts,hg (i,x) (by simp)]at hx ⊢;split at hx
  ·obtain⟨vs,hx,h1⟩:=lz hx;exact h1 _ (wz ps _ (λp hp=>hg p (by simp[hp])) hx)
  ·exact hx.elim
theorem uN {e':Env}:∀(xs:List Operand) (Kc:List Value->Prop),(∀ x∈xs,e'.get x=e.get x)->aW e xs Kc->aW e' xs Kc
 | [],Kc,_,hx=>hx
 | x::xs,Kc,hg,hx=>by
  simp only[aW,hg x (by simp)]at hx ⊢;split at hx
  ·exact uN xs _ (λy hy=>hg y (by simp[hy])) hx
  ·exact hx.elim
theorem xy {e':Env} {t:TypeId} {cs:List Value} {K':Slot->Bx->Heap->Prop} (hd:∀ d,o.dst=some d->e.b d=none->e'.b d=none) (hx:newVar F t o.dst cs e h K)
  (hk:∀ s bx h',K s bx h'->ya F o e h s bx h'->K' s bx h'):newVar F t o.dst cs e' h K':=by
 unfold newVar at hx ⊢;split at hx
 ·rename_i d hl;have hl:=pP hl;split at hx
  ·rename_i hb;rw[bL]at hx;simp only[hd d hl hb,bL];exact hk _ _ _ hx ⟨λu jU hh=>by simp only[Option.some.injEq,Prod.mk.injEq]at hh;exact .inl ⟨by rw[hl,hh.1],by rw[<-hh.1];exact hb⟩,λu hh=>.inr ⟨_,by cases hh;rfl⟩,λ_ _=>Heap.le_refl h⟩
  ·exact hx.elim
 ·rw[pK]at hx ⊢;unfold BO at hx ⊢;intro b hb;exact hk _ _ _ (hx b hb) ⟨(λ_ _ hh=>by cases hh),λ_ hh=>hh.elim,λ_ _=>Heap.Cj _ hb⟩
theorem DK {e':Env} {t:TypeId} {n:Nat} {cs:List Value} {K':Slot->Bx->Heap->Prop} (hd:∀ d,o.dst=some d->e.b d=none->e'.b d=none) (hx:newRow F t o.dst n cs e h K)
  (hk:∀ s bx h',K s bx h'->ya F o e h s bx h'->K' s bx h'):newRow F t o.dst n cs e' h K':=by
 unfold newRow at hx ⊢;split at hx
 ·rename_i d hl;have hl:=pP hl;split at hx
  ·rename_i hb;rw[bL]at hx;simp only[hd d hl hb,bL];exact hk _ _ _ hx ⟨λu jU hh=>by simp only[Option.some.injEq,Prod.mk.injEq]at hh;exact .inl ⟨by rw[hl,hh.1],by rw[<-hh.1];exact hb⟩,λu hh=>.inr ⟨_,by cases hh;rfl⟩,λ_ _=>Heap.le_refl h⟩
  ·exact hx.elim
 ·rw[pK]at hx ⊢;unfold BO at hx ⊢;intro b hb;exact hk _ _ _ (hx b hb) ⟨(λ_ _ hh=>by cases hh),λ_ hh=>hh.elim,λ_ _=>Heap.Cj _ hb⟩
theorem DL {e':Env} {ti:TI} {x:Slot} (hb:∀ u,x.refs u->e'.b u=e.b u) (hx:load ti x e h K):∃ v,K (.v v) none h/\∀ K':Slot->Bx->Heap->Prop,K' (.v v) none h->load ti x e' h K':=by
 cases x with
 | l u off =>
  have hr:yw e' u off ti.size=yw e u off ti.size:=by unfold yw;rw[hb u rfl]
  unfold load at hx ⊢;simp only[hr]at hx ⊢;cases jB:yw e u off ti.size with
  | none=>rw[jB]at hx;exact hx.elim
  | some vs =>
   rw[jB]at hx;cases jI:ti.agg with
   | true =>
    simp only[jI,bL]at hx;exact⟨_,hx,λK' hk=>by simp only[bL];exact hk⟩
   | false =>
    simp only[jI]at hx;rcases vs with _|⟨v,_|_⟩
    ·exact hx.elim
    ·exact⟨_,hx,λK' hk=>hk⟩
    ·exact hx.elim
 | r u k=>exact hx.elim
 | x=>exact hx.elim
 | v v =>
  obtain⟨ss,h1,h2⟩:=DI hx;unfold load at hx ⊢;split at hx
  ·rename_i hh;cases hh
  ·rename_i b off hh;cases hh
   cases jI:ti.agg with
   | true =>
    simp only[jI]at hx;rw[uG]at hx ⊢;unfold Fy at hx ⊢;obtain⟨vs,jB,hx⟩:=hx;exact⟨_,hx,λK' hk=>⟨vs,jB,hk⟩⟩
   | false =>
    simp only[jI]at hx;split at hx
    ·rw[yq]at hx ⊢;unfold Rw at hx ⊢;obtain⟨v,hv,hx⟩:=hx;exact⟨_,hx,λK' hk=>⟨v,hv,hk⟩⟩
    ·exact hx.elim
  ·exact hx.elim
theorem Oi {e':Env} {Kv U6:Value->Heap->Prop} (hg:∀ y∈o.op.operands,e'.get y=e.get y) (hx:Raw P o e h Kv) (hk:∀ v h',Kv v h'->U6 v h'):Raw P o e' h U6:=by
 rw[nL]at hx ⊢;unfold Al at hx ⊢;refine⟨λx hm=>by rw[hg x hm];exact hx.1 x hm,λρ wv w hv=>?_⟩;obtain⟨v,w',h',h1,h2,h3⟩:=hx.2 ρ (λx hm=>by rw[<-hg x hm];exact wv x hm) w hv;exact⟨v,w',h',h1,h2,hk _ _ h3⟩
theorem cZ.mono {f:FuncId} {args:List Value} {R R':Out->Heap->Prop} (hx:cZ P f args h R) (hr:∀ o h',R o h'->R' o h'):cZ P f args h R':=by
 intro w hv;refine(hx w hv).mono ?_;rintro e w' ⟨h',m,hm⟩;refine⟨h',m,?_⟩;cases e<;>first|exact hr _ _ hm|exact hm
theorem IE {e':Env} {ti:TI} {x:Slot} {v:Value} {K':Slot->Bx->Heap->Prop} (hb:∀ u,x.refs u->e'.b u=e.b u) (hx:store ti x v e h K)
  (hk:∀ s bx h',K s bx h'->(s=.v undef/\∀ u cs,bx=some (u,cs)->x.refs u)->K' s bx h'):store ti x v e' h K':=by
 unfold store at hx ⊢;obtain⟨vs,hx,h1⟩:=lz hx;refine h1 _ ?_;split at hx
 ·exact hx.elim
 ·cases x with
  | l u off =>
   simp only at hx ⊢;rw[hb u rfl];split at hx
   ·split at hx
    ·rw[bL]at hx;exact(bL _ _).2 (hk _ _ _ hx ⟨rfl,λu' jU hh=>by simp only[Option.some.injEq,Prod.mk.injEq]at hh;exact hh.1⟩)
    ·exact hx.elim
   ·exact hx.elim
  | v v =>
   cases v with
   | pointer p =>
    rcases p with _|⟨b,off,_|sp⟩
    ·exact hx.elim
    ·simp only at hx ⊢;rw[FA]at hx ⊢;unfold UQ at hx ⊢;obtain⟨cs,t,g1,g2,g3⟩:=hx;exact⟨cs,t,g1,g2,hk _ _ _ g3 ⟨rfl,(λ_ _ hh=>by cases hh)⟩⟩
    ·exact hx.elim
   | _=>exact hx.elim
  | _=>exact hx.elim
theorem FP {e':Env} {size:Nat} {x:Slot} {Kc:Nat->List Value->Prop} (hb:∀ u,x.refs u->e'.b u=e.b u) (hx:appArg e size x h Kc) :
  ∃ m vs,Kc m vs/\∀ Kd:Nat->List Value->Prop,Kd m vs->appArg e' size x h Kd:=by
 unfold appArg at hx ⊢;split at hx
 ·rename_i t k;simp only[hb t rfl];split at hx
  ·split at hx
   ·rename_i hl;exact⟨_,_,hx,λ_ hk=>by (try simp only[hl]);exact hk⟩
   ·exact hx.elim
  ·exact hx.elim
 ·rw[uH]at hx ⊢;unfold Fz at hx ⊢;rcases hx with ⟨hz,hx⟩|⟨b,off,vs,hp,jB,hx⟩
  ·exact⟨_,_,hx,λ_ hk=>.inl ⟨hz,hk⟩⟩
  ·exact⟨_,_,hx,λ_ hk=>.inr ⟨b,off,vs,hp,jB,hk⟩⟩
 ·exact hx.elim
theorem App.mono {bytes size:Nat} {zero:List Value} {el:TypeId} {p:Option Addr} {n cap m:Nat} {vs:List Value} {Kv U6:Value->Heap->Prop} (hx:App bytes size zero el h p n cap m vs Kv) (hk:∀ v h',Kv v h'->U6 v h') :
  App bytes size zero el h p n cap m vs U6:=by
 rw[pM]at hx ⊢;unfold BP at hx ⊢;refine⟨λhle=>?_,λgE=>?_⟩
 ·obtain⟨h1,h2⟩:=hx.1 hle;refine⟨h1,?_⟩;rcases p with _|⟨b,off,_|sp⟩
  ·exact⟨h2.1,hk _ _ h2.2⟩
  ·obtain⟨cs,t,h3,h4,h5⟩:=h2;exact⟨cs,t,h3,h4,hk _ _ h5⟩
  ·exact h2.elim
 ·obtain⟨h1,h2,iB,h3,h4⟩:=hx.2 gE;exact⟨h1,h2,iB,h3,λb c hb hc=>hk _ _ (h4 b c hb hc)⟩
theorem DM {x:Bool} {fv:Value} {args:List Value} {K':Slot->Bx->Heap->Prop} (hx:qS P S x fv args h K E) (hk:∀ s bx h',K s bx h'->(∃ v,s=.v v)->bx=none->(x=true->h.le h')->K' s bx h'):qS P S x fv args h K' E:=by
 unfold qS at hx ⊢;split at hx
 ·split at hx
  ·rw[bL]at hx ⊢;cases x with
   | true =>
    simp only at hx ⊢;rw[sr]at hx ⊢;unfold v9 at hx ⊢;refine hx.mono λo h' hh=>?_;cases o with
    | ret v=>exact⟨hh.1,hk _ _ _ hh.2 ⟨v,rfl⟩ rfl (λ_=>hh.1)⟩
    | lY c=>exact hh
   | false =>
    simp only at hx ⊢;rw[uF]at hx ⊢;unfold yp at hx ⊢;refine hx.mono λo h' hh=>?_;cases o with
    | ret v=>exact hk _ _ _ hh ⟨v,rfl⟩ rfl (λh0=>by cases h0)
    | lY c=>exact hh
  ·exact hx.elim
 ·exact hx.elim
theorem U7 {o:Oper} (hw:J6 o.op=true):cls F o=.W:=by
 obtain⟨dst,op,ty,pos,after,guard⟩:=o;cases op with
 | call c =>
  obtain⟨callee,args,ts⟩:=c;cases callee with
  | value f=>cases hw
  | invoke r m=>rfl
  | builtin b=>cases b<;>first|rfl|cases hw
 | _=>first|rfl|cases hw
theorem oJ {e':Env} {K':Slot->Bx->Heap->Prop} (ha:Qf F o e e') (hx:exec P S F true o e h K E)
  (hk:∀ s bx h',K s bx h'->ya F o e h s bx h'->K' s bx h'):exec P S F true o e' h K' E:=by
 obtain⟨dst,op,ty,pos,after,guard⟩:=o;have pV:∀ v,K (.v v) none h->K' (.v v) none h:=λv hv=>hk _ _ _ hv ya.plain;have lK:∀ W:Bool,W=J6 op->(match true && !W with
  | true=>False
  | false=>Raw P ⟨dst,op,ty,pos,after,guard⟩ e h λv h'=>K (.v v) none h')->(match true && !W with
  | true=>False
  | false=>Raw P ⟨dst,op,ty,pos,after,guard⟩ e' h λv h'=>K' (.v v) none h'):=by
  intro W hW hr;cases W with
  | false=>exact hr
  | true =>
   refine Oi ha.get hr λv h' hv=>hk _ _ _ hv ⟨(λ_ _ hh=>by cases hh),(λ_ hh=>hh.elim),λhc _=>?_⟩;exact absurd (U7 hW.symm) hc
 cases op with
 | move y =>
  have hg:=ha.get y (by simp[Op.operands]);simp only[exec,hg]at hx ⊢;cases hy:e.get y<;>simp only[hy]at hx<;>first|exact hx.elim|exact hk _ _ _ hx (ya.same (y:=y) (by simp[Op.operands]) hy)
 | assign y =>
  have hg:=ha.get y (by simp[Op.operands]);simp only[exec,hg]at hx ⊢;cases hy:e.get y<;>simp only[hy]at hx<;>first|exact hx.elim|exact hk _ _ _ hx (ya.same (y:=y) (by simp[Op.operands]) hy)
 | pick c y z =>
  have hgc:=ha.get c (by simp[Op.operands]);have DN:=ha.get y (by simp[Op.operands]);have DO:=ha.get z (by simp[Op.operands]);simp only[exec,hgc,DN,DO]at hx ⊢;split at hx
  ·rename_i t ht;cases t with
   | true =>
    have hx:(match e.get y with | .x=>False|s=>K s none h):=hx;show(match e.get y with | .x=>False|s=>K' s none h);cases hy:e.get y<;>simp only[hy]at hx<;>first|exact hx.elim|exact hk _ _ _ hx (ya.same (y:=y) (by simp[Op.operands]) hy)
   | false =>
    have hx:(match e.get z with | .x=>False|s=>K s none h):=hx;show(match e.get z with | .x=>False|s=>K' s none h);cases hy:e.get z<;>simp only[hy]at hx<;>first|exact hx.elim|exact hk _ _ _ hx (ya.same (y:=z) (by simp[Op.operands]) hy)
  ·exact hx.elim
 | alloc t =>
  simp only[exec]at hx ⊢;split at hx
  ·exact xy (o:=⟨dst,.alloc t,ty,pos,after,guard⟩) ha.dst hx hk
  ·exact hx.elim
 | box t y =>
  have hg:=ha.get y (by simp[Op.operands]);simp only[exec,hg]at hx ⊢;split at hx
  ·obtain⟨cs,hx,h3⟩:=lz hx;exact h3 _ (xy (o:=⟨dst,.box t y,ty,pos,after,guard⟩) ha.dst hx hk)
  ·exact hx.elim
 | build t ps =>
  have hg:∀ p∈ps.toList,e'.get p.2=e.get p.2:=λp hp=>ha.get p.2 (by simp only[Op.operands];exact List.mem_toArray.2 (List.mem_map.2 ⟨p,hp,rfl⟩));simp only[exec]at hx ⊢;unfold Ry at hx ⊢;split at hx
  ·split at hx
   ·exact hx.elim
   ·obtain⟨qs,hx,h1⟩:=oH _ _ hx;refine wz _ _ hg (h1 _ ?_);split at hx
    ·rw[bL]at hx ⊢;exact pV _ hx
    ·exact hx.elim
  ·exact hx.elim
 | buildSlice t k ps =>
  have hg:∀ p∈ps.toList,e'.get p.2=e.get p.2:=λp hp=>ha.get p.2 (by simp only[Op.operands];exact List.mem_toArray.2 (List.mem_map.2 ⟨p,hp,rfl⟩));simp only[exec]at hx ⊢;split at hx
  ·split at hx
   ·split at hx
    ·obtain⟨qs,hx,h3⟩:=oH _ _ hx;refine wz _ _ hg (h3 _ ?_);split at hx
     ·exact DK (o:=⟨dst,.buildSlice t k ps,ty,pos,after,guard⟩) ha.dst hx hk
     ·exact hx.elim
    ·exact hx.elim
   ·exact hx.elim
  ·exact hx.elim
 | load t y =>
  have hg:=ha.get y (by simp[Op.operands]);have hb:∀ u,(e.get y).refs u->e'.b u=e.b u:=by
   rcases ha.box with hc|hb
   ·simp only[cls]at hc;split at hc<;>cases hc
   ·exact hb y (by simp[Op.operands])
  simp only[exec,hg]at hx ⊢;split at hx
  ·split at hx
   ·split at hx
    ·rename_i u off hy;obtain⟨v,h1,h2⟩:=DL (e':=e') (λu' hu=>hb u' (by rw[hy];exact hu)) hx;exact h2 _ (pV _ h1)
    ·exact hx.elim
   ·obtain⟨v,h1,h2⟩:=DL (e':=e') hb hx;exact h2 _ (pV _ h1)
  ·exact hx.elim
 | store t y z =>
  have DN:=ha.get y (by simp[Op.operands]);have DO:=ha.get z (by simp[Op.operands]);have hb:∀ u,(e.get y).refs u->e'.b u=e.b u:=by
   rcases ha.box with hc|hb
   ·simp[cls,J6]at hc
   ·exact hb y (by simp[Op.operands])
  simp only[exec,DN,DO]at hx ⊢;split at hx
  ·refine IE hb hx λs bx h' hK hr=>hk _ _ _ hK ?_;refine⟨λu cs hh=>.inr ⟨by simp[cls,J6],y,by simp[Op.operands],hr.2 u cs hh⟩,λu hu=>?_,λhc _=>?_⟩
   ·rw[hr.1]at hu;exact hu.elim
   ·exact absurd (by simp[cls,J6]) hc
  ·exact hx.elim
 | nilCheck y =>
  have hg:=ha.get y (by simp[Op.operands]);simp only[exec,hg]at hx ⊢;split at hx
  ·rename_i hy;exact hk _ _ _ hx (ya.same (y:=y) (by simp[Op.operands]) hy)
  ·exact pV _ hx
  ·exact pV _ hx
  ·exact pV _ hx
  ·exact lK _ rfl hx
 | binOp op t y z u =>
  have DN:=ha.get y (by simp[Op.operands]);have DO:=ha.get z (by simp[Op.operands]);simp only[exec,DN,DO]at hx ⊢;split at hx
  ·split at hx
   ·obtain⟨v,hx,h1⟩:=yH hx;exact h1 _ (pV _ hx)
   ·exact lK _ rfl hx
  ·split at hx
   ·split at hx
    ·exact pV _ hx
    ·exact pV _ hx
    ·exact lK _ rfl hx
   ·exact lK _ rfl hx
  ·obtain⟨v,hx,h1⟩:=DJ hx;exact Kj ha.get (h1 h (λs bx h'=>K' s bx h') (pV _ hx))
 | unOp op t y =>
  have hg:=ha.get y (by simp[Op.operands]);simp only[exec,hg]at hx ⊢;split at hx
  ·exact pV _ hx
  ·rw[jq]at hx ⊢;exact pV _ hx
  ·exact lK _ rfl hx
 | convert s t y =>
  have hg:=ha.get y (by simp[Op.operands]);simp only[exec,hg]at hx ⊢;split at hx
  ·split at hx
   ·rw[jq]at hx ⊢;exact pV _ hx
   ·exact lK _ rfl hx
  ·exact lK _ rfl hx
 | makeInterface t y =>
  have hg:=ha.get y (by simp[Op.operands]);simp only[exec,hg]at hx ⊢;split at hx
  ·split at hx
   ·exact hx.elim
   ·exact pV _ hx
  ·exact hx.elim
 | makeFunc f fs cs =>
  simp only[exec]at hx ⊢;obtain⟨vs,hx,h1⟩:=oI _ _ hx;obtain⟨us,hx,h2⟩:=oI _ _ hx;refine uN _ _ (λx hm=>ha.get x (by simp only[Op.operands];exact Array.mem_append.2 (.inl (Array.mem_toList_iff.1 hm)))) (h1 _ ?_);exact uN _ _ (λx hm=>ha.get x (by simp only[Op.operands];exact Array.mem_append.2 (.inr (Array.mem_toList_iff.1 hm)))) (h2 _ (pV _ hx))
 | slice t y lo hi mx =>
  have hg:=ha.get y (by simp[Op.operands]);have AF:iG e' lo=iG e lo:=by
   cases lo with
   | none=>rfl
   | some x=>simp only[iG];rw[ha.get x (by simp[Op.operands])]
  have RE:iG e' hi=iG e hi:=by
   cases hi with
   | none=>rfl
   | some x=>simp only[iG];rw[ha.get x (by simp[Op.operands])]
  simp only[exec,hg,AF,RE]at hx ⊢;split at hx
  ·split at hx
   ·obtain⟨v,hx,h1⟩:=xw hx;exact h1 _ (pV _ hx)
   ·exact lK _ rfl hx
  ·exact lK _ rfl hx
 | fieldAddr t y i =>
  have hg:=ha.get y (by simp[Op.operands]);simp only[exec,hg]at hx ⊢;split at hx
  ·split at hx
   ·split at hx
    ·rename_i u off hy;exact hk _ _ _ hx ⟨(λ_ _ hh=>by cases hh),(λu' hh=>.inl ⟨y,by simp[Op.operands],by rw[hy];exact hh⟩),λ_ _=>Heap.le_refl h⟩
    ·exact pV _ hx
    ·exact hx.elim
   ·exact hx.elim
  ·exact hx.elim
 | field t y i =>
  have hg:=ha.get y (by simp[Op.operands]);simp only[exec,hg]at hx ⊢;split at hx
  ·split at hx
   ·split at hx
    ·rename_i cs tu hy Cb;split at hx
     ·cases jI:tu.agg with
      | true=>simp only[jI,bL]at hx ⊢;exact pV _ hx
      | false =>
       simp only[jI]at hx;simp only;split at hx
       ·exact pV _ hx
       ·exact hx.elim
     ·exact hx.elim
    ·exact hx.elim
   ·exact hx.elim
  ·exact hx.elim
 | indexAddr t y z =>
  have DN:=ha.get y (by simp[Op.operands]);have DO:=ha.get z (by simp[Op.operands]);simp only[exec,DN,DO]at hx ⊢;split at hx
  ·split at hx
   ·split at hx
    ·obtain⟨h1,hx⟩:=de.1 hx;rw[su]at hx ⊢;unfold Du at hx ⊢;obtain⟨b,off,hp,hx⟩:=hx;exact de.2 ⟨h1,b,off,hp,pV _ hx⟩
    ·rename_i hy;obtain⟨h1,hx⟩:=de.1 hx;exact de.2 ⟨h1,hk _ _ _ hx ⟨(λ_ _ hh=>by cases hh),(λu' hh=>.inl ⟨y,by simp[Op.operands],by rw[hy];exact hh⟩),λ_ _=>Heap.le_refl h⟩⟩
    ·exact hx.elim
   ·split at hx
    ·obtain⟨h1,hx⟩:=de.1 hx;exact de.2 ⟨h1,pV _ hx⟩
    ·rename_i hy;obtain⟨h1,hx⟩:=de.1 hx;exact de.2 ⟨h1,hk _ _ _ hx ⟨(λ_ _ hh=>by cases hh),(λu' hh=>.inl ⟨y,by simp[Op.operands],by rw[hy];exact hh⟩),λ_ _=>Heap.le_refl h⟩⟩
    ·exact hx.elim
   ·exact hx.elim
  ·exact hx.elim
 | index t y z =>
  have DN:=ha.get y (by simp[Op.operands]);have DO:=ha.get z (by simp[Op.operands]);simp only[exec,DN,DO]at hx ⊢;split at hx
  ·split at hx
   ·obtain⟨h1,hx⟩:=de.1 hx;exact de.2 ⟨h1,pV _ hx⟩
   ·exact lK _ rfl hx
  ·exact lK _ rfl hx
 | extract y i =>
  have hg:=ha.get y (by simp[Op.operands]);simp only[exec,hg]at hx ⊢;split at hx
  ·split at hx
   ·exact pV _ hx
   ·exact hx.elim
  ·exact hx.elim
 | makeSlice t y z =>
  have DN:=ha.get y (by simp[Op.operands]);have DO:=ha.get z (by simp[Op.operands]);simp only[exec,DN,DO]at hx ⊢;split at hx
  ·split at hx
   ·obtain⟨h1,hx⟩:=de.1 hx;refine de.2 ⟨h1,?_⟩;rw[pK]at hx ⊢;unfold BO at hx ⊢;exact λb hb=>hk _ _ _ (hx b hb) ⟨(λ_ _ hh=>by cases hh),(λ_ hh=>hh.elim),λ_ _=>Heap.Cj _ hb⟩
   ·exact hx.elim
  ·exact hx.elim
 | panic y =>
  have hg:=ha.get y (by simp[Op.operands]);simp only[exec,hg]at hx ⊢;exact hx
 | call c =>
  obtain⟨callee,args,ts⟩:=c;cases callee with
  | value f =>
   have hg:=ha.get f (by simp[Op.operands,Call.operands]);simp only[exec,hg]at hx ⊢;split at hx
   ·obtain⟨vs,hx,h1⟩:=oI _ _ hx;refine uN _ _ (λx hm=>ha.get x (by simp[Op.operands,Call.operands,Array.mem_toList_iff.1 hm])) (h1 _ ?_);refine DM hx λs bx h' hK hs Oj hle=>hk _ _ _ hK ?_;obtain⟨v,rfl⟩:=hs;subst Oj;refine⟨(λ_ _ hh=>by cases hh),(λ_ hh=>hh.elim),λ_ hA=>hle ?_⟩;cases hm:Rx F f with
    | true=>exact absurd (by simp only[cls,hm]) hA
    | false=>rfl
   ·exact hx.elim
  | invoke r m=>exact lK _ rfl hx
  | builtin b =>
   cases b with
   | len =>
    simp only[exec]at hx ⊢;split at hx
    ·rename_i y hargs;have hg:=ha.get y (by simp[Op.operands,Call.operands,Array.mem_toList_iff.1 (show y∈args.toList by rw[hargs];simp)]);simp only[hg];split at hx
     ·split at hx
      ·exact pV _ hx
      ·exact hx.elim
     ·split at hx
      ·exact pV _ hx
      ·exact hx.elim
     ·exact lK _ rfl hx
    ·exact hx.elim
   | max =>
    simp only[exec]at hx ⊢;split at hx
    ·rename_i y z hargs;have DN:=ha.get y (by simp[Op.operands,Call.operands,Array.mem_toList_iff.1 (show y∈args.toList by rw[hargs];simp)]);have DO:=ha.get z (by simp[Op.operands,Call.operands,Array.mem_toList_iff.1 (show z∈args.toList by rw[hargs];simp)]);simp only[DN,DO];split at hx
     ·split at hx
      ·exact pV _ hx
      ·exact lK _ rfl hx
     ·exact lK _ rfl hx
    ·exact lK _ rfl hx
   | min =>
    simp only[exec]at hx ⊢;split at hx
    ·rename_i y z hargs;have DN:=ha.get y (by simp[Op.operands,Call.operands,Array.mem_toList_iff.1 (show y∈args.toList by rw[hargs];simp)]);have DO:=ha.get z (by simp[Op.operands,Call.operands,Array.mem_toList_iff.1 (show z∈args.toList by rw[hargs];simp)]);simp only[DN,DO];split at hx
     ·split at hx
      ·exact pV _ hx
      ·exact lK _ rfl hx
     ·exact lK _ rfl hx
    ·exact lK _ rfl hx
   | cap =>
    simp only[exec]at hx ⊢;split at hx
    ·rename_i y hargs;have hg:=ha.get y (by simp[Op.operands,Call.operands,Array.mem_toList_iff.1 (show y∈args.toList by rw[hargs];simp)]);simp only[hg];split at hx
     ·split at hx
      ·exact pV _ hx
      ·exact hx.elim
     ·exact lK _ rfl hx
    ·exact hx.elim
   | append =>
    simp only[exec]at hx ⊢;split at hx
    ·rename_i y z t u hargs Hr;have DN:=ha.get y (by simp[Op.operands,Call.operands,Array.mem_toList_iff.1 (show y∈args.toList by rw[hargs];simp)]);have hmz:z∈(⟨dst,.call ⟨.builtin .append,args,ts⟩,ty,pos,after,guard⟩:Oper).op.operands:=by
      simp[Op.operands,Call.operands,Array.mem_toList_iff.1 (show z∈args.toList by rw[hargs];simp)]
     have DO:=ha.get z hmz;have hb:∀ u,(e.get z).refs u->e'.b u=e.b u:=by
      rcases ha.box with hc|hb
      ·simp[cls]at hc
      ·exact hb z hmz
     simp only[DN,DO];split at hx
     ·split at hx
      ·split at hx
       ·obtain⟨m,vs,hx,h1⟩:=FP (e':=e') hb hx;exact h1 _ (hx.mono λv h' hv=>hk _ _ _ hv ⟨(λ_ _ hh=>by cases hh),(λ_ hh=>hh.elim),λ_ hc=>absurd (by simp[cls]) hc⟩)
       ·exact hx.elim
      ·exact hx.elim
     ·exact lK _ rfl hx
    ·exact hx.elim
   | _=>exact lK _ rfl hx
 | _=>exact lK _ rfl hx
def gd (ops:Array Oper) (o:Oper) (e:Env):Option Bool :=
 match o.guard with
 | none=>some true
 | some (j,w)=>match ops[j]? with
  | none=>some false
  | some o'=>match o'.dst with
   | none=>some false
   | some d=>match e.s d with
    | .v (.bool b)=>some (b==w)
    | .v (.tuple _)=>some false
    | _=>none
def one (P:Program) (S:oD) (F:Fs) (ops:Array Oper) (o:Oper) (e:Env) (h:Heap) (K:Env->Heap->Prop) (E:List PanicEntry->Heap->Prop):Prop :=
 match gd ops o e with
 | some true=>exec P S F true o e h (λs bx h'=>K (e.put o.dst s bx) h') E
 | some false=>K (e.put o.dst (.v undef) none) h
 | none=>False
theorem Kl {d:Nat} {s:Slot} (hs:e.s d=s):e.put (some d) s none=e:=by
 unfold Env.put;cases e with
 | mk es eb =>
  simp only at hs ⊢;congr 1
  funext t
  split
  ·rename_i hh;rw[hh,hs]
  ·rfl
theorem kI {ops:Array Oper} {K:Env->Heap->Prop}:uJ P S F true ops.toList o e h K E↔one P S F ops o e h K E:=by
 unfold uJ one guardOf gd;cases hg:o.guard with
 | none=>exact Iff.rfl
 | some jw =>
  obtain⟨j,w⟩:=jw;simp only[wq,Array.getElem?_toList];cases ho:ops[j]? with
  | none=>exact Iff.rfl
  | some o' =>
   simp only;cases hd:o'.dst with
   | none=>exact Iff.rfl
   | some d =>
    simp only;cases hs:e.s d with
    | v x =>
     cases x with
     | bool b =>
      simp only;cases b<;>cases w<;>simp only[Kl hs]<;>exact Iff.rfl
     | _=>exact Iff.rfl
    | _=>exact Iff.rfl
def xV (P:Program) (S:oD) (F:Fs) (ops:Array Oper) (K:Env->Heap->Prop) (E:List PanicEntry->Heap->Prop):Nat->Array Bool->Env->Heap->Prop
 | 0,bp,e,h=>Region.ready .any ops bp=[]/\K e h
 | k+1,bp,e,h=>(Region.ready .any ops bp=[]->K e h) /\
  ∀ i∈Region.ready .any ops bp,∃ o,ops[i]? = some o/\one P S F ops o e h (λe' h'=>xV P S F ops K E k (bp.setIfInBounds i true) e' h') E
theorem tT {n:Nat} (hS:dQ P S) {ops:Array Oper} (hd:∀ o∈ops.toList,∀ d',o.dst=some d'->d' < n) {K:Env->Heap->Prop} {Q:Exit->Act->World->Prop} {h0:Heap} {w0:World}
  (hk:∀ e' h' sw a' w',K e' h'->Rel D n h0 w0 sw e' h' a' w'->Q .normal a' w')
  (hE:∀ c h' a' w',E c h'->dn h0 w0 h' w'->a'.defers=D->Q (.panic c) a' w') :
  ∀(k:Nat) (bp:Array Bool) (e:Env) (h:Heap) (β:Nat->Nat) (a:Act) (w:World),xV P S F ops K E k bp e h->Rel D n h0 w0 β e h a w->wpAny P .any ops Q k bp a w
 | 0,bp,e,h,β,a,w,hx,r=>⟨hx.1,hk _ _ β _ _ hx.2 r⟩
 | k+1,bp,e,h,β,a,w,hx,r=>⟨λh0=>hk _ _ β _ _ (hx.1 h0) r,λi hi=>by
   obtain⟨o,ho,h1⟩:=hx.2 i hi;exact qY hS ho r (hd o (by rw[<-Array.getElem?_toList]at ho;exact List.mem_of_getElem? ho)) (kI.2 h1) (λe' h' sw a' w' hK hR=>tT hS hd hk hE k _ e' h' sw a' w' hK hR) hE⟩
def WF (e:Env):Prop:=∀ t u,(e.s t).refs u->(e.b u).isSome
theorem WF.get (hw:WF e) {y:Operand} {u:Nat} (hr:(e.get y).refs u):(e.b u).isSome:=by
 cases y with
 | tmp t=>exact hw t u hr
 | _=>exact hr.elim
theorem Rel.wf {n:Nat} {h0:Heap} {w0:World} {β:Nat->Nat} {a:Act} {w:World} (r:Rel D n h0 w0 β e h a w):WF e:=by
 intro t u hr;have:=r.slot t;revert hr this
 cases e.s t<;>intro hr this<;>first|exact hr.elim|(cases hr;exact this.2)
theorem FQ (hw:WF e) {d:Option Nat} {s:Slot} {bx:Bx} (hs:∀ u,s.refs u->(e.b u).isSome\/∃ cs,bx=some (u,cs)):WF (e.put d s bx):=by
 have hb:∀ u,((e.b u).isSome\/∃ cs,bx=some (u,cs))->((e.put d s bx).b u).isSome:=by
  intro u hu;unfold Env.put;cases bx with
  | none =>
   rcases hu with hu|⟨cs,hh⟩
   ·exact hu
   ·cases hh
  | some uc =>
   obtain⟨u',jU⟩:=uc;simp only;split
   ·rfl
   ·rename_i cH;rcases hu with hu|⟨cs,hh⟩
    ·exact hu
    ·simp only[Option.some.injEq,Prod.mk.injEq]at hh;exact absurd hh.1.symm cH
 intro t u hr;cases d with
 | none=>exact hb u (.inl (hw t u hr))
 | some d =>
  simp only[Env.put]at hr;split at hr
  ·exact hb u (hs u hr)
  ·exact hb u (.inl (hw t u hr))
theorem Hu {d:Option Nat} {s:Slot} {bx:Bx} {y:Operand} (cH:∀ d',d=some d'->y≠.tmp d'):(e.put d s bx).get y=e.get y:=by
 cases y with
 | tmp t =>
  cases d with
  | none=>rfl
  | some d =>
   have:t≠d:=λhh=>cH d rfl (by rw[hh]);simp[Env.get,Env.put,this]
 | _=>rfl
theorem DP {d:Option Nat} {s:Slot} {bx:Bx} {u:Nat} (cH:∀ u' cs,bx=some (u',cs)->u≠u'):(e.put d s bx).b u=e.b u:=by
 cases bx with
 | none=>rfl
 | some uc=>obtain⟨u',cs⟩:=uc;simp[Env.put,cH u' cs rfl]
theorem put_comm {d d':Option Nat} {s s':Slot} {bx RM:Bx} (hd:∀ t,d=some t->d'≠some t) (hb:∀ u cs,bx=some (u,cs)->∀ u' jU,RM=some (u',jU)->u≠u') :
  (e.put d s bx).put d' s' RM=(e.put d' s' RM).put d s bx:=by
 unfold Env.put;congr 1
 ·cases d with
  | none=>rfl
  | some t =>
   cases d' with
   | none=>rfl
   | some t' =>
    have cH:t≠t':=λhh=>hd t rfl (by rw[hh]);funext k
    simp only;by_cases h1:k=t
    ·subst h1;simp[cH]
    ·simp[h1]
 ·cases bx with
  | none=>rfl
  | some uc =>
   cases RM with
   | none=>rfl
   | some uc' =>
    obtain⟨u,cs⟩:=uc;obtain⟨u',jU⟩:=uc';have cH:u≠u':=hb u cs rfl u' jU rfl;funext k
    simp only;by_cases h1:k=u
    ·subst h1;simp[cH]
    ·simp[h1]
theorem FR {ops:Array Oper} {d:Option Nat} {s:Slot} {bx:Bx} (cH:∀ d',d=some d'->d' ∉ o.looksAt ops):gd ops o (e.put d s bx)=gd ops o e:=by
 unfold gd;cases hg:o.guard with
 | none=>rfl
 | some jw =>
  obtain⟨j,w⟩:=jw;simp only;cases ho:ops[j]? with
  | none=>rfl
  | some o' =>
   simp only;cases hd:o'.dst with
   | none=>rfl
   | some t =>
    simp only;have:(e.put d s bx).s t=e.s t:=by
     cases d with
     | none=>rfl
     | some d =>
      have:t≠d:=λhh=>cH d rfl (by simp[Oper.looksAt,hg,ho,hd,hh]);simp[Env.put,this]
    rw[this]
theorem DQ {ops:Array Oper} {d:Option Nat} (cH:∀ d',d=some d'->d' ∉ o.looksAt ops) {y:Operand} (hy:y∈o.op.operands):∀ d',d=some d'->y≠.tmp d':=by
 intro d' hd hh;refine cH d' hd ?_;unfold Oper.looksAt;refine List.mem_append.2 (.inl (List.mem_filterMap.2 ⟨y,Array.mem_toList_iff.2 hy,by rw[hh]⟩))
def Hv:eD->eD->Bool
 | .P,_=>true
 | .L,.W=>false
 | .L,_=>true
 | .R,.W=>false
 | .R,.A=>false
 | .R,_=>true
 | _,_=>false
structure Ok (P:Program) (S:oD) (F:Fs) (ops:Array Oper) (o:Oper) (e:Env) (h:Heap) (s:Slot) (bx:Bx):Prop where
 run:(gd ops o e=some true/\∀(h':Heap) (K:Slot->Bx->Heap->Prop) (E:List PanicEntry->Heap->Prop),(cls F o=.R->h.le h')->K s bx h'->exec P S F true o e h' K E) \/
  (gd ops o e=some false/\s=.v undef/\bx=none)
 fb:∀ u cs,bx=some (u,cs)->o.dst=some u/\e.b u=none
 fs:∀ u,s.refs u->(∃ y∈o.op.operands,(e.get y).refs u)\/∃ cs,bx=some (u,cs)
theorem Ok.one {ops:Array Oper} {s:Slot} {bx:Bx} (st:Ok P S F ops o e h s bx) {K:Env->Heap->Prop} (hK:K (e.put o.dst s bx) h):one P S F ops o e h K E:=by
 unfold Vc.one;rcases st.run with ⟨h1,h2⟩|⟨h1,rfl,rfl⟩
 ·simp only[h1];exact h2 h _ _ (λ_=>Heap.le_refl h) hK
 ·simp only[h1];exact hK
theorem front {ops:Array Oper} {K:Env->Heap->Prop} {i:Nat} {oi:Oper} (hi:ops[i]? = some oi) (hci:cls F oi=.P\/cls F oi=.L\/cls F oi=.R) {s:Slot} {bx:Bx} :
  ∀(k:Nat) (bp:Array Bool) (e:Env) (h:Heap),WF e ->
   (∀ j oj,ops[j]? = some oj->j≠i->bp.getD j true=false->(∀ d∈oj.after,Region.binds .any d=true->d.on≠i)->oi.apart ops oj=true/\Hv (cls F oi) (cls F oj)=true) ->
   i∈Region.ready .any ops bp->Ok P S F ops oi e h s bx ->
   xV P S F ops K E k (bp.setIfInBounds i true) (e.put oi.dst s bx) h->xV P S F ops K E (k+1) bp e h:=by
 intro k;induction k with
 | zero =>
  intro bp e h hw qB hr st H;refine⟨λh0=>(by rw[h0]at hr;cases hr),λj hj=>?_⟩;by_cases jj:j=i
  ·subst jj;exact⟨oi,hi,st.one H⟩
  ·have:=ready_mono hj jj;rw[H.1]at this;cases this
 | succ k ih =>
  intro bp e h hw qB hr st H;refine⟨λh0=>(by rw[h0]at hr;cases hr),λj hj=>?_⟩;by_cases jj:j=i
  ·subst jj;exact⟨oi,hi,st.one H⟩
  ·obtain⟨oj,hoj,h1⟩:=H.2 j (ready_mono hj jj);refine⟨oj,hoj,?_⟩;obtain⟨U8,oj',U9,eI⟩:=mem_ready.1 hj;rw[hoj]at U9;cases U9
   have aaQ:∀ d∈oj.after,Region.binds .any d=true->d.on≠i:=λd hd hb heq=>by
    have h1:=eI d hd hb;have h0:=(mem_ready.1 hr).1;rw[heq]at h1;rcases Nat.lt_or_ge i bp.size with h'|h'
    ·simp[h']at h0 h1;rw[h0]at h1;cases h1
    ·simp[Array.getElem?_eq_none h']at h1
   obtain⟨hap,lI⟩:=qB j oj hoj jj U8 aaQ;obtain⟨a1,a2,a3⟩:=Oper.apart_spec hap;have mT:∀ y∈oj.op.operands,(e.put oi.dst s bx).get y=e.get y:=λy hy=>Hu (DQ a1 hy);have Va:∀(d:Option Nat) (s':Slot) (RM:Bx),d=oj.dst->∀ y∈oi.op.operands,(e.put d s' RM).get y=e.get y:=λd s' RM hd y hy=>Hu (by rw[hd];exact DQ a3 hy);have RN:∀ k' ok,ops[k']? = some ok->k'≠i->(bp.setIfInBounds j true).getD k' true=false->(∀ d∈ok.after,Region.binds .any d=true->d.on≠i)->oi.apart ops ok=true/\Hv (cls F oi) (cls F ok)=true:=λk' ok hk hki hun Hw=>by
    refine qB k' ok hk hki ?_ Hw;by_cases Hp:j=k'
    ·subst Hp;exact U8
    ·rw[getD_set_ne true Hp]at hun;exact hun
   have step:∀ sj Nx h',xV P S F ops K E k ((bp.setIfInBounds i true).setIfInBounds j true) ((e.put oi.dst s bx).put oj.dst sj Nx) h'->ya F oj (e.put oi.dst s bx) h sj Nx h' ->
     xV P S F ops K E (k+1) (bp.setIfInBounds j true) (e.put oj.dst sj Nx) h':=by
    intro sj Nx h' hA hR;have hbj:∀ u cs,Nx=some (u,cs)->(oj.dst=some u/\e.b u=none)\/((e.b u).isSome/\cls F oj=.W):=by
     intro u cs hh;rcases hR.fb u cs hh with ⟨h1,h2⟩|⟨h1,y,hy,h2⟩
     ·refine .inl ⟨h1,?_⟩;cases bx with
      | none=>exact h2
      | some uc =>
       obtain⟨u',jU⟩:=uc;by_cases hu:u=u'
       ·subst hu;exact(st.fb u jU rfl).2
       ·rw[DP (λu'' aaR Vb=>by simp only[Option.some.injEq,Prod.mk.injEq]at Vb;rw[<-Vb.1];exact hu)]at h2;exact h2
     ·rw[mT y hy]at h2;exact .inr ⟨hw.get h2,h1⟩
    have Vd:∀ u cs,Nx=some (u,cs)->∀ t,oi.dst=some t->e.b t=none->t≠u:=by
     intro u cs hh t ht hb heq;subst heq;rcases hbj _ _ hh with ⟨h1,_⟩|⟨h1,_⟩
     ·exact a2 t ht h1
     ·rw[hb]at h1;cases h1
    have BV:WF (e.put oj.dst sj Nx):=FQ hw λu hu=>by
     rcases hR.fs u hu with ⟨y,hy,Km⟩|hh
     ·rw[mT y hy]at Km;exact .inl (hw.get Km)
     ·exact .inr hh
    have jI:Qf F oi e (e.put oj.dst sj Nx):={
     get:=Va _ _ _ rfl
     box:=by
      rcases hci with hc|hc
      ·exact .inl hc
      ·right
       intro y hy u hu;refine DP λu' jU hh heq=>?_;subst heq;rcases hbj _ _ hh with ⟨_,h2⟩|⟨_,h2⟩
       ·have:=hw.get hu;rw[h2]at this;cases this
       ·rw[h2]at lI;rcases hc with hc|hc<;>rw[hc]at lI<;>cases lI
     dst:=λt ht hb=>by rw[DP (λu' jU hh=>Vd u' jU hh t ht hb)];exact hb}
    refine ih _ _ _ BV RN (ready_mono hr (Ne.symm jj)) ?_ ?_
    ·refine⟨?_,λu cs hh=>⟨(st.fb u cs hh).1,jI.dst u (st.fb u cs hh).1 (st.fb u cs hh).2⟩,λu hu=>?_⟩
     ·rcases st.run with ⟨g1,g2⟩|⟨g1,g2,g3⟩
      ·refine .inl ⟨by rw[FR a3];exact g1,λAo K' E' hle hk=>?_⟩;have:=g2 Ao K' E' (λhc=>?_) hk
       ·exact oJ jI this (λs bx h' hK _=>hK)
       ·refine Heap.le_trans (hR.le ?_ ?_) (hle hc)
        ·intro pW;rw[hc,pW]at lI;cases lI
        ·intro pW;rw[hc,pW]at lI;cases lI
      ·exact .inr ⟨by rw[FR a3];exact g1,g2,g3⟩
     ·rcases st.fs u hu with ⟨y,hy,Km⟩|hh
      ·exact .inl ⟨y,hy,by rw[jI.get y hy];exact Km⟩
      ·exact .inr hh
    ·rw[Array.setIfInBounds_comm _ _ jj,put_comm (λt ht=>λhh=>a2 t hh ht) (λu cs hu u' jU hu' heq=>?_)]
     ·exact hA
     ·subst heq;obtain⟨g1,g2⟩:=st.fb _ _ hu';exact Vd _ _ hu _ g1 g2 rfl
   unfold one at h1 ⊢;rw[FR a1]at h1;split at h1
   ·rename_i hg;simp only[hg];refine oJ (o:=oj) (e:=e.put oi.dst s bx) ⟨λy hy=>(mT y hy).symm,?_,?_⟩ h1 (λsj Nx h' hA hR=>step sj Nx h' hA hR)
    ·right
     intro y hy u hu;rw[mT y hy]at hu;refine(DP λu' jU hh heq=>?_).symm;subst heq;have:=hw.get hu;rw[(st.fb _ _ hh).2]at this;cases this
    ·intro t ht hb;cases bx with
     | none=>exact hb
     | some uc =>
      obtain⟨u',jU⟩:=uc;by_cases hu:t=u'
      ·subst hu;exact(st.fb t jU rfl).2
      ·rw[DP (λu'' aaR Vb=>by simp only[Option.some.injEq,Prod.mk.injEq]at Vb;rw[<-Vb.1];exact hu)]at hb;exact hb
   ·rename_i hg;simp only[hg];exact step _ _ _ h1 ya.plain
   ·exact h1.elim
def DR (F:Fs) (ops:Array Oper):List Nat->Array Bool->Bool
 | [],bp=>(Region.ready .any ops bp).isEmpty
 | i::r,bp=>(Region.ready .any ops bp).contains i&&(match ops[i]? with
  | none=>false
  | some oi=>((match cls F oi with | .P=>true | .L=>true | .R=>true|_=>false)&&(List.range ops.size).all λj=>j==i||bp.getD j true||match ops[j]? with
    | some oj=>(oj.after.any λd=>Region.binds .any d&&d.on==i)||(oi.apart ops oj&&Hv (cls F oi) (cls F oj))
    | none=>true)||Region.ready .any ops bp == [i])&&DR F ops r (bp.setIfInBounds i true)
theorem Kn {ops:Array Oper} {K:Env->Heap->Prop} (hw:WF e) (hx:one P S F ops o e h K E):one P S F ops o e h (λe' h'=>WF e'/\K e' h') E:=by
 unfold one at hx ⊢;split at hx
 ·refine oJ (e:=e) ⟨λ_ _=>rfl,.inr λ_ _ _ _=>rfl,λ_ _ h=>h⟩ hx (λs bx h' hA hR=>⟨FQ hw λu hu=>?_,hA⟩);rcases hR.fs u hu with ⟨y,hy,hr⟩|hh
  ·exact .inl (hw.get hr)
  ·exact .inr hh
 ·exact⟨FQ hw λu hu=>hu.elim,hx⟩
 ·exact hx.elim
theorem uO {ops:Array Oper} {K K':Env->Heap->Prop} (hx:one P S F ops o e h K E) (hk:∀ e' h',K e' h'->K' e' h'):one P S F ops o e h K' E:=by
 unfold one at hx ⊢;split at hx
 ·exact oJ (e:=e) ⟨λ_ _=>rfl,.inr λ_ _ _ _=>rfl,λ_ _ h=>h⟩ hx (λs bx h' hA _=>hk _ _ hA)
 ·exact hk _ _ hx
 ·exact hx.elim
theorem Ko {ops:Array Oper} {K:Env->Heap->Prop} (hc:cls F o=.P\/cls F o=.L\/cls F o=.R) (hx:one P S F ops o e h K E):∃ s bx,Ok P S F ops o e h s bx/\K (e.put o.dst s bx) h:=by
 unfold one at hx;split at hx
 ·rename_i hg;have jv:=oJ (e:=e) ⟨λ_ _=>rfl,.inr λ_ _ _ _=>rfl,λ_ _ h=>h⟩ hx (λs bx h' hA hR=>(⟨hA,hR⟩:K (e.put o.dst s bx) h'/\ya F o e h s bx h'));have hfb:∀ s bx,ya F o e h s bx h->∀ u cs,bx=some (u,cs)->o.dst=some u/\e.b u=none:=by
   intro s bx hR u cs hh;rcases hR.fb u cs hh with h1|⟨h1,_⟩
   ·exact h1
   ·rcases hc with hc|hc|hc<;>rw[hc]at h1<;>cases h1
  by_cases pW:cls F o=.R
  ·have Ve:∃ s,(K (e.put o.dst s none) h/\ya F o e h s none h)/\∀(h':Heap) (K':Slot->Bx->Heap->Prop) (E':List PanicEntry->Heap->Prop),h.le h'->K' s none h'->exec P S F true o e h' K' E':=by
    obtain⟨dst,op,ty,pos,after,guard⟩:=o;cases op with
    | load t y =>
     have hl:JR F.LL dst=false:=by
      simp only[cls]at pW;split at pW
      ·cases pW
      ·assumption
     simp only[exec]at jv ⊢;split at jv
     ·rename_i ti dj;simp only[hl]at jv;obtain⟨s,h1,h2⟩:=DI jv;exact⟨s,h1,λh' K' E' hle hk=>by simp only[hl];exact h2 h' K' hle hk⟩
     ·exact jv.elim
    | call c =>
     obtain⟨callee,args,ts⟩:=c;cases callee with
     | value f=>simp only[cls]at pW;split at pW<;>cases pW
     | invoke r m=>cases pW
     | builtin b=>cases b<;>cases pW
    | alloc t=>simp only[cls]at pW;split at pW<;>cases pW
    | box t y=>simp only[cls]at pW;split at pW<;>cases pW
    | buildSlice t k ps=>simp only[cls]at pW;split at pW<;>cases pW
    | _=>cases pW
   obtain⟨s,⟨h1,h2⟩,h3⟩:=Ve;exact⟨s,none,⟨.inl ⟨hg,λh' K' E' hle hk=>h3 h' K' E' (hle pW) hk⟩,hfb _ _ h2,h2.fs⟩,h1⟩
  ·obtain⟨s,bx,⟨h1,h2⟩,h3⟩:=Kk (by
    rcases hc with hc|hc|hc
    ·exact .inl hc
    ·exact .inr hc
    ·exact absurd hc pW) jv
   exact⟨s,bx,⟨.inl ⟨hg,λh' K' E' _ hk=>h3 h' K' E' hk⟩,hfb _ _ h2,h2.fs⟩,h1⟩
 ·rename_i hg;exact⟨_,_,⟨.inr ⟨hg,rfl,rfl⟩,(λ_ _ hh=>by cases hh),λ_ hh=>hh.elim⟩,hx⟩
 ·exact hx.elim
def Hx (F:Fs) (ops:Array Oper) (i:Nat) (bp:Array Bool):Bool :=
 (Region.ready .any ops bp).contains i&&(match ops[i]? with
  | none=>false
  | some oi=>((match cls F oi with | .P=>true | .L=>true | .R=>true|_=>false)&&(List.range ops.size).all λj=>j==i||bp.getD j true||match ops[j]? with
    | some oj=>(oj.after.any λd=>Region.binds .any d&&d.on==i)||(oi.apart ops oj&&Hv (cls F oi) (cls F oj))
    | none=>true)||Region.ready .any ops bp == [i])
theorem yJ {ops:Array Oper} {K:Env->Heap->Prop} {i:Nat} {oi:Oper} {k:Nat} {bp:Array Bool} {e:Env} {h:Heap} (hn:Hx F ops i bp=true) (hi:ops[i]? = some oi) (hw:WF e)
  (hx:uJ P S F true ops.toList oi e h (λe' h'=>WF e'->xV P S F ops K E k (bp.setIfInBounds i true) e' h') E):xV P S F ops K E (k+1) bp e h:=by
 simp only[Hx,Bool.and_eq_true,hi]at hn;obtain⟨h1,h2⟩:=hn;have hr:i∈Region.ready .any ops bp:=by simpa using h1
 have hx:=Kn hw (kI.1 hx);have hx:=uO hx (λe' h' hh=>hh.2 hh.1);simp only[Bool.or_eq_true]at h2;rcases h2 with h2|h2
 ·simp only[Bool.and_eq_true]at h2;obtain⟨h4,h5⟩:=h2;have hc:cls F oi=.P\/cls F oi=.L\/cls F oi=.R:=by
   revert h4
   cases cls F oi<;>simp
  obtain⟨s,bx,st,hK⟩:=Ko hc hx;refine front hi hc k bp e h hw (λj oj hj cH hun Hw=>?_) hr st hK;have gE:j < ops.size:=(Array.getElem?_eq_some_iff.1 hj).1;have:=List.all_eq_true.1 h5 j (by simpa using gE);simp only[hj,Bool.or_eq_true,hun]at this;rcases this with (h6|h6)|h6
  ·exact absurd (by simpa using h6) cH
  ·cases h6
  ·rcases h6 with h6|h6
   ·exfalso;obtain⟨k,hk,hd⟩:=Array.any_eq_true.1 h6;simp only[Bool.and_eq_true]at hd;exact Hw _ (Array.getElem_mem hk) hd.1 (by simpa using hd.2)
   ·simpa using h6
 ·have hre:Region.ready .any ops bp=[i]:=by simpa using h2
  refine⟨λh0=>(by rw[hre]at h0;cases h0),λj hj=>?_⟩;rw[hre]at hj;simp only[List.mem_singleton]at hj;subst hj;exact⟨oi,hi,hx⟩
theorem yK {ops:Array Oper} {K:Env->Heap->Prop}:∀(p:List Nat) (bp:Array Bool) (e:Env) (h:Heap),DR F ops p bp=true->WF e->N8 P S F true ops.toList K E p e h->xV P S F ops K E p.length bp e h
 | [],bp,e,h,hp,_,hx=>⟨by simpa [DR]using hp,hx⟩
 | i::r,bp,e,h,hp,hw,hx=>by
  simp only[DR,Bool.and_eq_true]at hp;obtain⟨⟨h1,h2⟩,h3⟩:=hp;simp only[N8,wq,Array.getElem?_toList]at hx;cases hi:ops[i]? with
  | none=>rw[hi]at hx;exact hx.elim
  | some oi =>
   simp only[hi]at hx;refine yJ (by unfold Hx;rw[h1];exact h2) hi hw (kI.2 (uO (kI.1 hx) λe' h' hh Ud=>yK r (bp.setIfInBounds i true) e' h' h3 Ud hh))
def PT.uP:PT->List Nat
 | .alt i _ r=>i::r.uP
 | _=>[]
def oK (F:Fs) (ops:Array Oper):PT->Bool->Nat->Array Bool->Bool
 | .nil,c,k,bp=>!c&&k==0&&(Region.ready .any ops bp).isEmpty
 | .eO,c,_,_=>c
 | .one i r,c,k,bp=>!c&&(match k with
  | 0=>false
  | k+1=>Hx F ops i bp&&oK F ops r false k (bp.setIfInBounds i true))
 | .alt i t r,c,k,bp=>(match k with
  | 0=>false
  | k+1=>(c||(!(Region.ready .any ops bp).isEmpty&&(Region.ready .any ops bp).all λj=>(i::r.uP).contains j))&&oK F ops t false k (bp.setIfInBounds i true)&&oK F ops r true (k+1) bp)
theorem pY {ops:Array Oper} {K:Env->Heap->Prop}:∀(p:PT),
  (∀(k:Nat) (bp:Array Bool) (e:Env) (h:Heap),oK F ops p false k bp=true->WF e->uK P S F ops.toList K E p e h->xV P S F ops K E k bp e h) /\
  (∀(k:Nat) (bp:Array Bool) (e:Env) (h:Heap),oK F ops p true (k+1) bp=true->WF e->uK P S F ops.toList K E p e h->∀ i∈p.uP,∃ o,ops[i]? = some o/\one P S F ops o e h (λe' h'=>xV P S F ops K E k (bp.setIfInBounds i true) e' h') E)
 | .nil=>by
  refine⟨λk bp e h hp hw hx=>?_,λk bp e h hp hw hx i hi=>?_⟩
  ·simp only[oK,Bool.and_eq_true]at hp;have hk:k=0:=by simpa using hp.1.2
   subst hk;exact⟨by simpa using hp.2,hx⟩
  ·simp[PT.uP]at hi
 | .eO=>by
  refine⟨λk bp e h hp hw hx=>?_,λk bp e h hp hw hx i hi=>?_⟩
  ·simp[oK]at hp
  ·simp[PT.uP]at hi
 | .one i r=>by
  refine⟨λk bp e h hp hw hx=>?_,λk bp e h hp hw hx j hj=>?_⟩
  ·simp only[oK,Bool.and_eq_true]at hp;cases k with
   | zero=>simp at hp
   | succ k =>
    simp only[Bool.and_eq_true]at hp;obtain⟨_,h1,h3⟩:=hp;simp only[uK,wq,Array.getElem?_toList]at hx;cases hi:ops[i]? with
    | none=>rw[hi]at hx;exact hx.elim
    | some oi =>
     simp only[hi]at hx;exact yJ h1 hi hw (kI.2 (uO (kI.1 hx) λe' h' hh Ud=>(pY r).1 k _ e' h' h3 Ud hh))
  ·simp[PT.uP]at hj
 | .alt i t r=>by
  have key:∀(c:Bool) (k:Nat) (bp:Array Bool) (e:Env) (h:Heap),oK F ops (.alt i t r) c (k+1) bp=true->WF e->uK P S F ops.toList K E (.alt i t r) e h->∀ j∈(PT.alt i t r).uP,∃ o,ops[j]? = some o/\one P S F ops o e h (λe' h'=>xV P S F ops K E k (bp.setIfInBounds j true) e' h') E:=by
   intro c k bp e h hp hw hx j hj;simp only[oK,Bool.and_eq_true]at hp;obtain⟨⟨_,h2⟩,h3⟩:=hp;simp only[uK,wq,Array.getElem?_toList]at hx;simp only[PT.uP,List.mem_cons]at hj;rcases hj with rfl|hj
   ·have hx:=hx.1;cases hi:ops[j]? with
    | none=>rw[hi]at hx;exact hx.elim
    | some oi =>
     simp only[hi]at hx;exact⟨oi,rfl,uO (Kn hw (kI.1 hx)) λe' h' hh=>(pY t).1 k _ e' h' h2 hh.1 hh.2⟩
   ·exact(pY r).2 k bp e h h3 hw hx.2 j hj
  refine⟨λk bp e h hp hw hx=>?_,λk bp e h hp hw hx=>key true k bp e h hp hw hx⟩;cases k with
  | zero=>simp[oK]at hp
  | succ k =>
   have hk:=key false k bp e h hp hw hx;simp only[oK,Bool.and_eq_true,Bool.false_or]at hp;obtain⟨⟨⟨h0,h1⟩,_⟩,_⟩:=hp;refine⟨λhe=>(by rw[he]at h0;simp at h0),λj hj=>hk j ?_⟩;have:=List.all_eq_true.1 h1 j hj;simpa [PT.uP]using this
def Code.jX (F:Fs):Code->Bool
 | .region id ops dr=>match dr with
  | true=>match FD id F.cq with
   | some p=>p.length==ops.size&&DR F ops p (Array.replicate ops.size false)
   | none=>match FE id F.trees with
    | some t=>oK F ops t false ops.size (Array.replicate ops.size false)
    | none=>true
  | false=>true
 | .seq a b=>Code.jX F a&&Code.jX F b
 | .cond _ a b=>Code.jX F a&&Code.jX F b
 | .block _ c=>Code.jX F c
 | .loop c=>Code.jX F c
 | .scope c=>Code.jX F c
 | _=>true
theorem pZ {n:Nat} (hS:dQ P S):∀ c:Code,Code.lq n c=true->Code.jX F c=true->Code.kT P S F n c:=by
 intro c;induction c with
 | region id ops dr =>
  intro hd hp;cases dr with
  | false=>trivial
  | true =>
   intro D K E Q h0 w0 β e h a w hx r hk hE;unfold drawn at hx;simp only[Code.jX]at hp;split at hx
   ·rename_i p fV;simp only[fV,Bool.and_eq_true]at hp;have hl:p.length=ops.size:=by simpa using hp.1
    have:=yK p _ e h hp.2 r.wf hx;rw[hl]at this;exact tT hS (tS hd) hk hE _ _ _ _ _ _ _ this r
   ·rename_i fV;simp only[fV]at hp;split at hx
    ·rename_i t lZ;simp only[lZ]at hp;exact tT hS (tS hd) hk hE _ _ _ _ _ _ _ ((pY t).1 _ _ e h hp r.wf hx) r
    ·exact hx.elim
 | seq a b iha ihb =>
  intro hd hp;simp only[Code.lq,Code.jX,Bool.and_eq_true]at hd hp;exact⟨iha hd.1 hp.1,ihb hd.2 hp.2⟩
 | cond c a b iha ihb =>
  intro hd hp;simp only[Code.lq,Code.jX,Bool.and_eq_true]at hd hp;exact⟨iha hd.1 hp.1,ihb hd.2 hp.2⟩
 | block id c ih=>exact λhd hp=>ih hd hp
 | loop c ih=>exact λhd hp=>ih hd hp
 | scope c ih=>exact λhd hp=>ih hd hp
 | _=>intro _ _;trivial
def aL (F:Fs) (fn:Func) (k:Nat):Bool:=match fn.body with
 | some c=>Nat.ble k fn.ntmps&&Code.lq fn.ntmps c&&Code.jX F c
 | none=>false
def Goal (P:Program) (S:oD) (F:Fs) (fn:Func) (args:List Value) (h:Heap) (R:Out->Heap->Prop):Prop:=match fn.body with
 | some c=>den P S F c (Fin S fn.results.toList R) (lu args) h
 | none=>False
theorem calls {S:oD} (hS:dQ P S) {f:FuncId} {fn:Func} (hf:P.funcs[f]? = some fn) (F:Fs) {args:List Value} (eP:aL F fn args.length=true) {h:Heap} {R:Out->Heap->Prop} (hx:Goal P S F fn args h R):cZ P f args h R:=by
 unfold aL at eP;unfold Goal at hx;cases hb:fn.body with
 | none=>rw[hb]at eP;cases eP
 | some c =>
  simp only[hb,Bool.and_eq_true]at eP hx;exact Ci hS F hf hb (Nat.le_of_ble_eq_true eP.1.1) eP.1.2 (pZ hS c eP.1.2 eP.2) hx
open Go.RowKit
def bI (P:Program) (f:FuncId) (args:List Value) (h:Heap) (R:Value->Heap->Prop):Prop :=
 cZ P f args h λo h'=>match o with
  | .ret v=>R v h'
  | .lY _=>False
def Pure (P:Program) (f:FuncId) (args:List Value) (h:Heap) (x:Value):Prop:=bI P f args h λv h'=>v=x/\h'=h
variable {P:Program} {f:FuncId} {args:List Value} {h:Heap} {K:Value->Heap->Prop} {E:List PanicEntry->Heap->Prop} {R:Value->Heap->Prop} {w:World}
theorem aC (hc:bI P f args h R) (hk:∀ v h',R v h'->K v h'):Call P f args h K E:=by
 rw[uF];unfold yp;refine cZ.mono hc λo h' hh=>?_;cases o with
 | ret v=>exact hk v h' hh
 | lY c=>exact hh.elim
theorem cX (hc:bI P f args h R) (hk:∀ v h',R v h'->h.le h'/\K v h'):iF P f args h K E:=by
 rw[sr];unfold v9;refine cZ.mono hc λo h' hh=>?_;cases o with
 | ret v=>exact hk v h' hh
 | lY c=>exact hh.elim
theorem dK {R:Out->Heap->Prop} (hc:cZ P f args h R) (hk:∀ v h',R (.ret v) h'->K v h') (he:∀ c h',R (.lY c) h'->E c h'):Call P f args h K E:=by
 rw[uF];unfold yp;refine cZ.mono hc λo h' hh=>?_;cases o with
 | ret v=>exact hk v h' hh
 | lY c=>exact he c h' hh
theorem sC {R:Out->Heap->Prop} (hc:cZ P f args h R) (hk:∀ v h',R (.ret v) h'->h.le h'/\K v h') (he:∀ c h',R (.lY c) h'->E c h'):iF P f args h K E:=by
 rw[sr];unfold v9;refine cZ.mono hc λo h' hh=>?_;cases o with
 | ret v=>exact hk v h' hh
 | lY c=>exact he c h' hh
theorem outs {S:oD} (hS:dQ P S) {fn:Func} (hf:P.funcs[f]? = some fn) (F:Fs) {k:Nat} (eP:aL F fn k=true) {R:Out->Heap->Prop} (hl:args.length=k) (hx:Goal P S F fn args h R):cZ P f args h R:=by
 subst hl;exact calls hS hf F eP hx
theorem aj {x:Value} (hc:Pure P f args h x) (hk:K x h):Call P f args h K E:=aC hc (by rintro v h' ⟨rfl,rfl⟩;exact hk)
theorem aK {x:Value} (hc:Pure P f args h x) (hk:K x h):iF P f args h K E:=cX hc (by rintro v h' ⟨rfl,rfl⟩;exact⟨Heap.le_refl _,hk⟩)
theorem bI.mono {R':Value->Heap->Prop} (hc:bI P f args h R) (hr:∀ v h',R v h'->R' v h'):bI P f args h R' :=
 cZ.mono hc λo h' hh=>by
  cases o with
  | ret v=>exact hr v h' hh
  | lY c=>exact hh.elim
theorem bZ {S:oD} (hS:dQ P S) {fn:Func} (hf:P.funcs[f]? = some fn) (F:Fs) {k:Nat} (eP:aL F fn k=true) (hl:args.length=k) (hx:Goal P S F fn args h λo h'=>match o with
  | .ret v=>R v h'
  | .lY _=>False):bI P f args h R:=by
 subst hl;exact calls hS hf F eP hx
theorem cZ.shrink {R R':Out->Heap->Prop} (hc:cZ P f args h R) (hr:∀ o h',R o h'->∃ Ao:Heap,Ao.le h'/\R' o Ao):cZ P f args h R':=by
 intro w hv;refine(hc w hv).mono ?_;rintro e w' ⟨h',m,hm⟩;have key:∀ o,R o h'->∃ Ao:Heap,dn h w Ao w'/\R' o Ao:=by
  intro o ho;obtain⟨Ao,hl,hR⟩:=hr o h' ho;refine⟨Ao,⟨λb x hb=>m.view b x (hl b x hb),m.aJ,λb hb=>m.x9 b ?_,m.size,m.fz,m.out⟩,hR⟩;cases hh:Ao b with
  | none=>exact absurd hh hb
  | some x=>rw[hl b x hh];simp
 cases e with
 | returned v=>exact key _ hm
 | panicked c=>exact key _ hm
 | outgrown=>exact⟨h',m,hm⟩
def FzH (h h':Heap):Prop:=∀(b:Nat) (cs:Array Value) (t:TypeId) (z:Nat × Nat),h' b=some (Obj.cells cs t z)->z=(0,0)\/h b=some (Obj.cells cs t z)
theorem cZ.fz {R:Out->Heap->Prop} (hc:cZ P f args h R):cZ P f args h λo h'=>R o h'/\FzH h h':=by
 intro w hv;refine(hc w hv).mono ?_;rintro e w' ⟨h',m,hm⟩;have hz:FzH h h':=λb cs t z hb=>by
  rcases m.fz b cs t z (m.view b _ hb)with hx|hx
  ·exact .inl hx
  ·rcases m.x9 b (by rw[hb];simp)with hd|hd
   ·cases hh:h b with
    | none=>exact absurd hh hd
    | some o =>
     have:=hv b o hh;rw[hx]at this;exact .inr this.symm
   ·have:=eV hx;omega
 refine⟨h',m,?_⟩;cases e with
 | returned v=>exact⟨hm,hz⟩
 | panicked c=>exact⟨hm,hz⟩
 | outgrown=>exact hm
theorem bI.fz (hc:bI P f args h R):bI P f args h λv h'=>R v h'/\FzH h h':=by
 refine cZ.mono (cZ.fz hc) λo h' hh=>?_;cases o with
 | ret v=>exact hh
 | lY c=>exact hh.1.elim
theorem iC {S:oD} (hS:dQ P S) {fn:Func} (hf:P.funcs[f]? = some fn) (F:Fs) {k:Nat} (eP:aL F fn k=true) {x:Value} (hl:args.length=k) (hx:Goal P S F fn args h λo h'=>match o with
  | .ret v=>v=x/\h'=h
  | .lY _=>False):Pure P f args h x:=by
 subst hl;exact calls hS hf F eP hx
theorem Ol {S:oD} (hS:dQ P S) {fn:Func} (hf:P.funcs[f]? = some fn) (F:Fs) {k:Nat} (eP:aL F fn k=true) {x:Value} (hl:args.length=k) (hx:Goal P S F fn args h λo h'=>match o with
  | .ret v=>v=x/\h.le h'
  | .lY _=>False):Pure P f args h x:=by
 subst hl;unfold Pure bI;refine(calls hS hf F eP hx).shrink λo h' hh=>?_;cases o with
 | ret v=>exact⟨h,hh.2,hh.1,rfl⟩
 | lY c=>exact hh.elim
theorem ax {p:Prop} {_:Decidable p} {t f:Prop} (ht:p->t) (hf:¬p->f):@Bool.rec (λ_=>Prop) f t (decide p):=by
 by_cases h:p
 ·rw[decide_eq_true h];exact ht h
 ·rw[decide_eq_false h];exact hf h
theorem aT {p:Prop} {_:Decidable p} {t f:Prop} (ht:¬p->t) (hf:p->f):@Bool.rec (λ_=>Prop) f t (!decide p):=by
 by_cases h:p
 ·rw[decide_eq_true h];exact hf h
 ·rw[decide_eq_false h];exact ht h
theorem eK {b:Bool} {t f:Prop} (ht:b=true->t) (hf:b=false->f):@Bool.rec (λ_=>Prop) f t b:=by
 cases b
 ·exact hf rfl
 ·exact ht rfl
theorem cJ {b:Bool} {t f:Prop} (ht:b=false->t) (hf:b=true->f):@Bool.rec (λ_=>Prop) f t (!b):=by
 cases b
 ·exact ht rfl
 ·exact hf rfl
theorem wrap_i64 {x:Int} (h0 : -9223372036854775808<=x) (h1:x<=9223372036854775807):IntKind.i64.wrap x=x:=by
 simp[IntKind.wrap,IntKind.bits,IntKind.signed];omega
theorem Kq {x:Int} {K:Int->Prop} (h0 : -9223372036854775808<=x) (h1:x<=9223372036854775807) (hk:K x):Ar .i64 x K:=by
 rw[jq,wrap_i64 h0 h1];exact hk
theorem qZ {k:IntKind} {x:Int} {K:Int->Prop} (hk:K (k.wrap x)):Ar k x K:=jq.2 hk
theorem ob {p q:Prop} (hp:p) (hq:q):Ob p q:=de.2 ⟨hp,hq⟩
theorem ah {x:Int} {K:Int->Prop} (hk:K x) (h0 : -9223372036854775808<=x:=by omega) (h1:x<=9223372036854775807:=by omega):Ar .i64 x K:=Kq h0 h1 hk
theorem aq {p q:Prop} (hq:q) (hp:p:=by omega):Ob p q:=ob hp hq
theorem ld {b off:Nat} {v:Value} {K:Value->Prop} (hr:rd h b off=some v) (hk:K v):Ld h b off K:=by rw[yq];unfold Rw;exact⟨v,hr,hk⟩
theorem dJ {b off n:Nat} {vs:List Value} {K:List Value->Prop} (hr:fj h b off n=some vs) (hk:K vs):LdN h b off n K:=by rw[uG];unfold Fy;exact⟨vs,hr,hk⟩
theorem ptr {b off:Nat} {K:Nat->Nat->Prop} (hk:K b off):Ptr (some ⟨b,off,none⟩) K:=by rw[su];unfold Du;exact⟨b,off,rfl,hk⟩
theorem aG {p:Option Addr} {b off:Nat} {K:Nat->Nat->Prop} (hp:p=some ⟨b,off,none⟩) (hk:K b off):Ptr p K:=by rw[su];unfold Du;exact⟨b,off,hp,hk⟩
theorem st {b off:Nat} {vs:List Value} {K:Heap->Prop} {cs:List Value} {t:TypeId} (hb:h b=some (.cells cs.toArray t (0,0))) (hl:off+vs.length<=cs.length) (hk:K (h.set b (.cells (eS cs off vs).toArray t (0,0)))):St h b off vs K:=by
 rw[FA];unfold UQ;exact⟨cs.toArray,t,hb,by simpa using hl,hk⟩
theorem new {cs:List Value} {t:TypeId} {K:Nat->Heap->Prop} (hk:∀ b,h b=none->K b (h.set b (.cells cs.toArray t))):JQ h cs t K:=by rw[pK];unfold BO;exact hk
theorem lp {body:(Ex->Env->Heap->Prop)->Env->Heap->Prop} {K:Ex->Env->Heap->Prop} {e:Env} (ls bs:List Nat) (Inv:Nat->List Slot->List (Option (List Value))->Heap->Prop) (n:Nat) (h0:Inv n (ls.map e.s) (bs.map e.b) h)
  (hs:∀ n vs cs h,Inv n vs cs h->body (λx e' h'=>match x with | .normal=>∃ m,m < n/\Inv m (ls.map e'.s) (bs.map e'.b) h' | .exit i=>K (.exit i) e' h' | .ret=>K .ret e' h' | .lY c=>K (.lY c) e' h') (yu ls bs vs cs) h):Lp body K e h:=by
 rw[J4];unfold Lp_;exact⟨ls,bs,Inv,⟨n,h0⟩,hs⟩
theorem fh {σ:Type} {body:(Ex->Env->Heap->Prop)->Env->Heap->Prop} {K:Ex->Env->Heap->Prop} {e:Env} (ls bs:List Nat) (St:σ->Prop) (m:σ->Nat) (f:σ->List Slot × List (Option (List Value)) × Heap) (s0:σ)
  (h0:St s0) (hf:f s0=(ls.map e.s,bs.map e.b,h))
  (hs:∀ s,St s->body (λx e' h'=>match x with | .normal=>∃ k,k < m s/\∃ s',St s'/\m s'=k/\f s'=(ls.map e'.s,bs.map e'.b,h') | .exit i=>K (.exit i) e' h' | .ret=>K .ret e' h' | .lY c=>K (.lY c) e' h') (yu ls bs (f s).1 (f s).2.1) (f s).2.2):Lp body K e h:=by
 refine lp ls bs (λn vs cs h'=>∃ s,St s/\m s=n/\f s=(vs,cs,h')) (m s0) ⟨s0,h0,rfl,hf⟩ ?_;rintro n vs cs h' ⟨s,h1,rfl,h2⟩;have:=hs s h1;rw[h2]at this;exact this
theorem dm {σ:Type} {St:σ->Prop} {m:σ->Nat} {f:σ->List Slot × List (Option (List Value)) × Heap} {t:List Slot × List (Option (List Value)) × Heap} {n:Nat} (s':σ) (h1:St s') (h2:m s' < n) (h3:f s'=t):∃ k,k < n/\∃ s',St s'/\m s'=k/\f s'=t:=⟨_,h2,s',h1,rfl,h3⟩
theorem Qg {o:Oper} {e:Env} {Kr:Value->Heap->Prop} {v:Value} (hv:∀ x∈o.op.operands,∃ v,e.get x=.v v)
  (hr:∀ ρ:Operand->Value,(∀ x∈o.op.operands,e.get x=.v (ρ x))->∀ w:World,(execOp ρ o).run P w=.ok (.value v) w) (hk:Kr v h):Raw P o e h Kr:=by
 rw[nL];unfold Al;exact⟨hv,λρ wv w hw=>⟨v,w,h,.inl (hr ρ wv w),dn.refl hw,hk⟩⟩
theorem fH {dst:Option Nat} {x:Operand} {xt at_:TypeId} {ok:Bool} {ty:TypeId} {pos:String} {af:Array Edge} {g:Option (Nat × Bool)} {e:Env} {Kr:Value->Heap->Prop} {c r:Value}
  (hx:e.get x=.v c) (hr:∀ w:World,(Instr.typeAssert c xt at_ ok).run P w=.ok r w) (hk:Kr r h):Raw P ⟨dst,.typeAssert x xt at_ ok,ty,pos,af,g⟩ e h Kr:=by
 refine Qg (v:=r) ?_ ?_ hk
 ·intro y hy;simp only[Op.operands,List.mem_toArray,List.mem_cons,List.not_mem_nil,or_false]at hy;subst hy;exact⟨c,hx⟩
 ·intro ρ wv w;have h1:=wv x (by simp[Op.operands]);rw[hx]at h1;injection h1 with h1
  simp only[execOp,<-h1];simp only[Sem.run_bind,hr,Result.andThen_ok,Sem.run_pure]
theorem iI {dst:Option Nat} {op:BinOp} {t u:TypeId} {x y:Operand} {ty:TypeId} {pos:String} {af:Array Edge} {g:Option (Nat × Bool)} {e:Env} {Kr:Value->Heap->Prop} {a b r:Value}
  (hx:e.get x=.v a) (hy:e.get y=.v b) (h1:∀ w:World,(eqGuard op t x y a b).run P w=.ok () w) (h2:∀ w:World,(Go.binOp op t a b).run P w=.ok r w) (hk:Kr r h):Raw P ⟨dst,.binOp op t x y u,ty,pos,af,g⟩ e h Kr:=by
 refine Qg (v:=r) ?_ ?_ hk
 ·intro z hz;simp only[Op.operands,List.mem_toArray,List.mem_cons,List.not_mem_nil,or_false]at hz;rcases hz with rfl|rfl
  ·exact⟨a,hx⟩
  ·exact⟨b,hy⟩
 ·intro ρ wv w;have e1:=wv x (by simp[Op.operands]);have e2:=wv y (by simp[Op.operands]);rw[hx]at e1;rw[hy]at e2;injection e1 with e1
  injection e2 with e2
  simp only[execOp,<-e1,<-e2];simp only[Sem.run_bind,h1,h2,Result.andThen_ok,Sem.run_pure]
theorem below_of_pure {x:Value} (hc:∀ h,(∀ b o,h b=some o->(w.heap[b]? = some o))->(∀ b,h b=w.heap[b]?)->Pure P f args h x):Calls P f args.toArray w λe w'=>e=.returned x/\Below w.heap.size w w':=by
 refine(hc (λb=>w.heap[b]?) (λ_ _ h=>h) (λ_=>rfl) w (λ_ _ h=>h)).mono ?_;rintro e w' ⟨h',m,hm⟩;cases e with
 | returned v =>
  obtain⟨rfl,rfl⟩:=hm;refine⟨rfl,m.out.1,m.out.2.1,m.out.2.2,m.size,λb hb=>?_⟩;rw[Array.getElem?_eq_getElem hb];exact m.view b _ (Array.getElem?_eq_getElem hb)
 | panicked c=>exact hm.elim
 | outgrown=>exact hm.elim
theorem mU {b off:Nat} {cs:Array Value} {t:TypeId} {fz:Nat × Nat}:rd (h.set b (.cells cs t fz)) b off=cs[off]?:=by simp[rd,Heap.set]
theorem nO {b c off:Nat} {o:Obj} (cH:b≠c):rd (h.set c o) b off=rd h b off:=by simp[rd,Heap.set,cH]
def fI:Nat->List (Int × Value)->List MapEntry
 | _,[]=>[]
 | n,(k,v)::r=>⟨.int .i64 k,v,n⟩::fI (n+1) r
def qK (l:List (Int × Value)):Obj:=.map (fI 0 l).toArray l.length
def lA (k:Int):List (Int × Value)->Nat->Option (Nat × Value)
 | [],_=>none
 | (j,v)::r,i=>if k=j then some (i,v)else lA k r (i+1)
theorem p7 (k:Int):∀(l:List (Int × Value)) (n i:Nat),Instr.findNow (.int .i64) (.int .i64 k) (fI n l) i=some (lA k l i)
 | [],n,i=>rfl
 | (j,v)::r,n,i=>by
  rw[fI,Instr.findNow,lA];by_cases h:k=j
  ·subst h;simp[Instr.sameNow]
  ·have:(k==j)=false:=by simp[h]
   simp[Instr.sameNow,this,h,p7 k r]
theorem tF (k:Int) (v:Value):∀(l:List (Int × Value)) (n:Nat),fI n (l++[(k,v)])=fI n l++[⟨.int .i64 k,v,n+l.length⟩]
 | [],n=>rfl
 | (j,x)::r,n=>by
  simp only[List.cons_append,fI,tF k v r,List.length_cons];rw[show n+1+r.length=n+(r.length+1)by omega]
theorem yL {h:Heap} {w:World} (hv:∀ b o,h b=some o->w.heap[b]? = some o):h w.heap.size=none:=by
 cases hh:h w.heap.size with
 | none=>rfl
 | some o=>have:=eV (hv _ _ hh);omega
theorem set_set (h:Heap) (b:Nat) (o o':Obj):(h.set b o).set b o'=h.set b o':=by
 funext c;simp only[Heap.set];split<;>rfl
theorem run_checkKey {P:Program} {kt:TypeId} (h2:∀ w:World,(underlying kt).run P w=.ok (.int .i64) w) (n:Int) (q:Bool) (w:World):(Instr.checkKey q 10000 kt (.int .i64 n)).run P w=.ok () w:=by
 have g:∀ k,(Instr.checkKey q (k+1) kt (.int .i64 n)).run P w=.ok () w:=by
  intro k;simp only[Instr.checkKey,Sem.run_bind,h2,Result.andThen_ok];rfl
 exact g 9999
variable {P:Program} {h:Heap} {e:Env} {Kr:Value->Heap->Prop} {dst:Option Nat} {ty t kt et:TypeId} {pos:String} {af:Array Edge} {g:Option (Nat × Bool)} {m k x:Operand} {b:Nat} {n:Int} {l:List (Int × Value)} {v:Value}
theorem RO (hk:∀ b,h b=none->Kr (.map (some b)) (h.set b (qK []))):Raw P ⟨dst,.makeMap t none,ty,pos,af,g⟩ e h Kr:=by
 rw[nL];unfold Al;refine⟨λy hy=>by simp[Op.operands]at hy,λρ wv w hw=>?_⟩;refine⟨.map (some w.heap.size),_,_,.inl ?_,dn.push hw _,hk _ (yL hw)⟩;simp only[execOp,Instr.makeMap,Option.map_none,Sem.run_bind,run_newObj,Sem.run_pure,Result.andThen_ok];rfl
theorem Om (hm:e.get m=.v (.map (some b))) (hk:e.get k=.v (.int .i64 n)) (hx:e.get x=.v v)
  (h1:∀ w:World,(underlying t).run P w=.ok (.map kt et) w) (h2:∀ w:World,(underlying kt).run P w=.ok (.int .i64) w) (hf:lA n l 0=none)
  (hK:Kr undef (h.set b (qK (l++[(n,v)])))):Raw P ⟨dst,.insert t m k x,ty,pos,af,g⟩ e (h.set b (qK l)) Kr:=by
 rw[nL];unfold Al;refine⟨?_,λρ wv w hw=>?_⟩
 ·intro y hy;simp only[Op.operands,List.mem_toArray,List.mem_cons,List.not_mem_nil,or_false]at hy;rcases hy with rfl|rfl|rfl
  ·exact⟨_,hm⟩
  ·exact⟨_,hk⟩
  ·exact⟨_,hx⟩
 ·have e1:=wv m (by simp[Op.operands]);have e2:=wv k (by simp[Op.operands]);have e3:=wv x (by simp[Op.operands]);rw[hm]at e1;rw[hk]at e2;rw[hx]at e3;injection e1 with e1
  injection e2 with e2
  injection e3 with e3
  have hb:(h.set b (qK l)) b=some (qK l):=by simp[Heap.set]
  have Ud:=hw _ _ hb;have mv:=dn.J7 hw hb (qK (l++[(n,v)])) (w':={w with heap:=w.heap.setIfInBounds b (qK (l++[(n,v)]))}) rfl ⟨rfl,rfl,rfl⟩;rw[set_set]at mv;refine⟨undef,_,_,.inr ⟨?_,rfl⟩,mv,hK⟩;have g1:∀ w:World,(Instr.checkKey false 10000 kt (.int .i64 n)).run P w=.ok () w:=by
   exact λw=>run_checkKey h2 n _ w
  have g2:∀ w:World,(Instr.findKey kt (.int .i64 n) (fI 0 l)).run P w=.ok none w:=by
   intro w;simp only[Instr.findKey,Sem.run_bind,h2,Result.andThen_ok,p7,hf,Sem.run_pure]
  have g3:(getObj b).run P w=.ok (.map (fI 0 l).toArray l.length) w:=by
   have BV:w.heap[b]? = some (.map (fI 0 l).toArray l.length):=Ud;simp[getObj,Sem.run,BV]
  have g4:∀ o',(setObj b o').run P w=.ok () {w with heap:=w.heap.setIfInBounds b o' }:=by
   intro o';have BV:w.heap[b]? = some (.map (fI 0 l).toArray l.length):=Ud;simp[setObj,Sem.run,BV]
  have g5:qK (l++[(n,v)])=.map ((fI 0 l).toArray.push {key:=.int .i64 n,val:=v,born:=l.length}) (l.length+1):=by
   simp[qK,tF]
  simp only[execOp,<-e1,<-e2,<-e3];simp only[Instr.mapUpdate,Sem.run_bind,h1,Result.andThen_ok,g3,g1,g2,g4,Sem.run_pure,g5]
theorem Ks (hm:e.get m=.v (.map (some b))) (hk:e.get k=.v (.int .i64 n))
  (h1:∀ w:World,(underlying t).run P w=.ok (.map kt et) w) (h2:∀ w:World,(underlying kt).run P w=.ok (.int .i64) w) {z:Value} (h3:∀ w:World,(zeroValue et).run P w=.ok z w)
  (hb:h b=some (qK l))
  (hK:Kr (.tuple (match lA n l 0 with|some (_,v)=>#[v,.bool true]|none=>#[z,.bool false])) h):Raw P ⟨dst,.lookup t m k true,ty,pos,af,g⟩ e h Kr:=by
 rw[nL];unfold Al;refine⟨?_,λρ wv w hw=>?_⟩
 ·intro y hy;simp only[Op.operands,List.mem_toArray,List.mem_cons,List.not_mem_nil,or_false]at hy;rcases hy with rfl|rfl
  ·exact⟨_,hm⟩
  ·exact⟨_,hk⟩
 ·have e1:=wv m (by simp[Op.operands]);have e2:=wv k (by simp[Op.operands]);rw[hm]at e1;rw[hk]at e2;injection e1 with e1
  injection e2 with e2
  refine⟨_,w,h,.inl ?_,dn.refl hw,hK⟩;have BV:w.heap[b]? = some (.map (fI 0 l).toArray l.length):=hw _ _ hb;have g1:∀(q:Bool) (w:World),(Instr.checkKey q 10000 kt (.int .i64 n)).run P w=.ok () w:=by
   exact run_checkKey h2 n
  have g2:∀ w:World,(Instr.findKey kt (.int .i64 n) (fI 0 l)).run P w=.ok (lA n l 0) w:=by
   intro w;simp only[Instr.findKey,Sem.run_bind,h2,Result.andThen_ok,p7,Sem.run_pure]
  have g3:(getObj b).run P w=.ok (.map (fI 0 l).toArray l.length) w:=by
   simp[getObj,Sem.run,BV]
  simp only[execOp,<-e1,<-e2];simp only[Instr.lookup,Sem.run_bind,h1,Result.andThen_ok,g3,g1,g2,Sem.run_pure];cases lA n l 0 with
  | none=>simp only[Sem.run_bind,h3,Result.andThen_ok,Sem.run_pure];rfl
  | some q=>obtain⟨i,y⟩:=q;simp only[Result.andThen_ok,Sem.run_pure];rfl
theorem On (hm:e.get m=.v (.map (some b))) (hk:e.get k=.v (.int .i64 n))
  (h1:∀ w:World,(underlying t).run P w=.ok (.map kt et) w) (h2:∀ w:World,(underlying kt).run P w=.ok (.int .i64) w) {z:Value} (h3:∀ w:World,(zeroValue et).run P w=.ok z w)
  (hb:h b=some (qK l)) {i:Nat} (hf:lA n l 0=some (i,v)) (hK:Kr (.tuple #[v,.bool true]) h):Raw P ⟨dst,.lookup t m k true,ty,pos,af,g⟩ e h Kr:=Ks hm hk h1 h2 h3 hb (by rw[hf];exact hK)
theorem Oo (hm:e.get m=.v (.map (some b))) (hk:e.get k=.v (.int .i64 n))
  (h1:∀ w:World,(underlying t).run P w=.ok (.map kt et) w) (h2:∀ w:World,(underlying kt).run P w=.ok (.int .i64) w) {z:Value} (h3:∀ w:World,(zeroValue et).run P w=.ok z w)
  (hb:h b=some (qK l)) (hf:lA n l 0=none) (hK:Kr (.tuple #[z,.bool false]) h):Raw P ⟨dst,.lookup t m k true,ty,pos,af,g⟩ e h Kr:=Ks hm hk h1 h2 h3 hb (by rw[hf];exact hK)
theorem gI {p:Prop} {_:Decidable p} {t f:Prop} (hp:p) (ht:t):@Bool.rec (λ_=>Prop) f t (decide p):=ax (λ_=>ht) (λh=>absurd hp h)
theorem cM {p:Prop} {_:Decidable p} {t f:Prop} (hp:¬p) (hf:f):@Bool.rec (λ_=>Prop) f t (decide p):=ax (λh=>absurd h hp) (λ_=>hf)
theorem RP {p:Prop} {_:Decidable p} {t f:Prop} (hp:¬p) (ht:t):@Bool.rec (λ_=>Prop) f t (!decide p):=aT (λ_=>ht) (λh=>absurd h hp)
theorem yM {p:Prop} {_:Decidable p} {t f:Prop} (hp:p) (hf:f):@Bool.rec (λ_=>Prop) f t (!decide p):=aT (λh=>absurd hp h) (λ_=>hf)
theorem cx {p:Prop} {_:Decidable p} {t f:Prop} (ht:t) (hp:p:=by omega):@Bool.rec (λ_=>Prop) f t (decide p):=gI hp ht
theorem bH {p:Prop} {_:Decidable p} {t f:Prop} (hf:f) (hp:¬p:=by omega):@Bool.rec (λ_=>Prop) f t (decide p):=cM hp hf
theorem dF {p:Prop} {_:Decidable p} {t f:Prop} (ht:t) (hp:¬p:=by omega):@Bool.rec (λ_=>Prop) f t (!decide p):=RP hp ht
theorem cN {p:Prop} {_:Decidable p} {t f:Prop} (hf:f) (hp:p:=by omega):@Bool.rec (λ_=>Prop) f t (!decide p):=yM hp hf
variable {P:Program}
theorem Kt {t u:TypeId} {f:Field} {ms:Array (String × TypeId)} {k':IntKind} {info:TypeInfo} (c d:Int)
  (h1:∀ w:World,(underlying t).run P w=.ok (.interface ms) w) (h2:∀ w:World,(typeInfo u).run P w=.ok info w) (jx:info.comparable=true)
  (h3:P.underlying u=some (.struct #[f])) (h4:P.stoodInHeld u=false) (hn:f.name≠ "_") (h5:P.underlying f.type=some (.int k'))
  (hp:∀(x:Int) (w:World),(part f.type #[.int .i64 x] f.offset).run P w=.ok (.int .i64 x) w) (w:World) :
  (Go.binOp .eql t (.iface u (.agg #[.int .i64 c])) (.iface u (.agg #[.int .i64 d]))).run P w=.ok (.bool (c==d)) w:=by
 have hf:P.fieldsOf u = #[f]:=by simp[Program.fieldsOf,h3]
 have e1:(Op.equalIn (9998+1) u (.agg #[.int .i64 c]) (.agg #[.int .i64 d])).run P w=.ok (c==d) w:=by
  rw[run_equalIn_struct w 9998 u _ _ (by rw[hf];exact h3) h4,hf];simp only[Op.eqFields,hn,ne_eq,not_false_eq_true,if_true,Sem.run_bind,hp,Result.andThen_ok];rw[show(9998:Nat)=9997+1 from rfl,run_equalIn_int w 9997 f.type .i64 k' c d h5];simp only[Result.andThen_ok];cases (c==d)<;>simp
 have e2:(Op.equalIn (9999+1) t (.iface u (.agg #[.int .i64 c])) (.iface u (.agg #[.int .i64 d]))).run P w=.ok (c==d) w:=by
  rw[Op.equalIn];simp only[Sem.run_bind,h1,Result.andThen_ok,ne_eq,not_true_eq_false,if_false,h2,jx,Bool.not_true,Bool.false_eq_true];exact e1
 have e3:(Op.equal t (.iface u (.agg #[.int .i64 c])) (.iface u (.agg #[.int .i64 d]))).run P w=.ok (c==d) w:=e2;simp only[Go.binOp];simp[e3]
theorem IF {t u:TypeId} {f:Field} {ms:Array (String × TypeId)} {info:TypeInfo} (c d:Bool)
  (h1:∀ w:World,(underlying t).run P w=.ok (.interface ms) w) (h2:∀ w:World,(typeInfo u).run P w=.ok info w) (jx:info.comparable=true)
  (h3:P.underlying u=some (.struct #[f])) (h4:P.stoodInHeld u=false) (hn:f.name≠ "_") (h5:P.underlying f.type=some .bool)
  (hp:∀(x:Bool) (w:World),(part f.type #[.bool x] f.offset).run P w=.ok (.bool x) w) (w:World) :
  (Go.binOp .eql t (.iface u (.agg #[.bool c])) (.iface u (.agg #[.bool d]))).run P w=.ok (.bool (c==d)) w:=by
 have hf:P.fieldsOf u = #[f]:=by simp[Program.fieldsOf,h3]
 have e1:(Op.equalIn (9998+1) u (.agg #[.bool c]) (.agg #[.bool d])).run P w=.ok (c==d) w:=by
  rw[run_equalIn_struct w 9998 u _ _ (by rw[hf];exact h3) h4,hf];simp only[Op.eqFields,hn,ne_eq,not_false_eq_true,if_true,Sem.run_bind,hp,Result.andThen_ok];rw[show(9998:Nat)=9997+1 from rfl,run_equalIn_bool' w 9997 f.type c d h5];simp only[Result.andThen_ok];cases (c==d)<;>simp
 have e2:(Op.equalIn (9999+1) t (.iface u (.agg #[.bool c])) (.iface u (.agg #[.bool d]))).run P w=.ok (c==d) w:=by
  rw[Op.equalIn];simp only[Sem.run_bind,h1,Result.andThen_ok,ne_eq,not_true_eq_false,if_false,h2,jx,Bool.not_true,Bool.false_eq_true];exact e1
 have e3:(Op.equal t (.iface u (.agg #[.bool c])) (.iface u (.agg #[.bool d]))).run P w=.ok (c==d) w:=e2;simp only[Go.binOp];simp[e3]
theorem Ku {t e:TypeId} (a:Option Addr) (l c:Nat) (h:P.underlying t=some (.slice e)) (w:World):(Go.binOp .eql t (.slice a l c) (.slice none 0 0)).run P w=.ok (.bool a.isNone) w:=by
 simp only[Go.binOp];simp[run_equal_slice_nil w t e a l c h]
variable {h:Heap} {e:Env} {dst:Option Nat} {t u ty:TypeId} {x y:Operand} {pos:String} {af:Array Edge} {g:Option (Nat × Bool)}
theorem Kw {Kr:Value->Heap->Prop} {el:TypeId} {a:Option Addr} {l c:Nat} (hx:e.get x=.v (.slice a l c)) (hy:e.get y=.v (.slice none 0 0)) (ht:P.underlying t=some (.slice el)) (hk:Kr (.bool a.isNone) h) :
  Raw P ⟨dst,.binOp .eql t x y u,ty,pos,af,g⟩ e h Kr :=
 iI hx hy (λw=>by simp[eqGuard]) (Ku a l c ht) hk
theorem Oq {o:Oper} {Kr:Value->Prop} {v:Value} (hv:∀ x∈o.op.operands,∃ v,e.get x=.v v)
  (hr:∀ ρ:Operand->Value,(∀ x∈o.op.operands,e.get x=.v (ρ x))->∀ w:World,(execOp ρ o).run P w=.ok (.value v) w) (hk:Kr v):N6 P o e Kr:=by
 rw[qR];unfold yt;exact⟨hv,v,hk,hr⟩
variable {P:Program} {S:oD} {h:Heap} {e:Env} {dst:Option Nat} {t u el ty:TypeId} {x y:Operand} {pos:String} {af:Array Edge} {g:Option (Nat × Bool)}
theorem Kx (hS:dQ P S) {ti tu te:TI} {p:Option Addr} {k cap n:Nat} {kd:IntKind} {Kr:Value->Heap->Prop}
  (dj:S.ty.find t=some ti) (qV:ti.d=.sl el) (Cb:S.ty.find u=some tu) (RF:tu.d=.num kd) (ju:S.ty.find el=some te) (BW:e.get x=.v (.slice p k cap)) (Od:e.get y=.v (.int .i64 n))
  (hsm:n*te.bytes<=2 ^ 44/\n<=2 ^ 44) (hx:App te.bytes te.size te.zero el h p k cap n (List.replicate n te.zero).flatten Kr):Raw P ⟨dst,.call {callee:=.builtin .append,args:=#[x,y],argTypes:=#[t,u]},ty,pos,af,g⟩ e h Kr:=by
 rw[nL];unfold Al;refine⟨?_,λρ wv w hw=>?_⟩
 ·intro z hz;simp only[Op.operands,Call.operands]at hz;have:z=x\/z=y:=by simpa using hz
  rcases this with rfl|rfl
  ·exact⟨_,BW⟩
  ·exact⟨_,Od⟩
 have e1:=wv x (by simp[Op.operands,Call.operands]);have e2:=wv y (by simp[Op.operands,Call.operands]);rw[BW]at e1;rw[Od]at e2;injection e1 with e1
 injection e2 with e2
 obtain⟨d,nX,jI,fT⟩:=dB hS dj w;rw[qV]at fT;cases d<;>simp only[nJ]at fT<;>try cases fT
 obtain⟨du,UZ,_,FI⟩:=dB hS Cb w;rw[RF]at FI;cases du<;>simp only[nJ]at FI<;>try cases FI
 obtain⟨i0,hi0,Vf,adB⟩:=mG hS ju w;have hwr:IntKind.i64.wrap (n:Int)=n:=wrap_i64 (by omega) (by omega);have Qh:∀ w1:World,(asInt (.int .i64 (n:Int))).run P w1=.ok (n:Int) w1:=λ_=>rfl;have Vg:¬((n:Int) < 0):=by omega
 have Vh:¬((n:Int)*(te.bytes:Int) > 2 ^ 48):=by
  have:((n*te.bytes:Nat):Int)<=2 ^ 44:=by exact_mod_cast hsm.1
  rw[Int.natCast_mul]at this;omega
 have fC:(execOp ρ ⟨dst,.call {callee:=.builtin .append,args:=#[x,y],argTypes:=#[t,u]},ty,pos,af,g⟩).run P w=((Builtin.append_ #[t,u] ty #[.slice p k cap,.int .i64 n]).run P w).andThen (λv w'=>.ok (.value v) w'):=by
  simp[execOp,resolve,invoke,builtin,<-e1,<-e2]
 have jB:∀ w1:World,(if n*te.size=0 then (pure #[]:Sem (Array Value))else do pure (Builtin.zeroCells (<-zeroValue el).cells n)).run P w1=.ok (List.replicate n te.zero).flatten.toArray w1:=by
  intro w1;obtain⟨z,hz,J9⟩:=kZ hS ju w1;have IB:z.cells=te.zero.toArray:=by rw[<-J9]
  have hzl:te.zero.length=te.size:=hS.zero _ _ ju;split
  ·rename_i h0;have:(List.replicate n te.zero).flatten=[]:=List.eq_nil_of_length_eq_zero (by simp[hzl];simpa [Nat.mul_eq_zero]using h0);rw[this];simp
  ·simp only[Sem.run_bind,hz,Result.andThen_ok,Sem.run_pure,pR,IB]
 generalize hV:(List.replicate n te.zero).flatten=vs at hx jB;rw[pM]at hx;unfold BP at hx;by_cases hle:k+n<=cap
 ·obtain⟨eP,hx⟩:=hx.1 hle;have Kb:∀ w',(match p with
    | some a=>(storeCells (a.add (k*te.size)) vs).run P w=.ok () w'
    | none=>w'=w)->((Builtin.append_ #[t,u] ty #[.slice p k cap,.int .i64 n]).run P w).andThen (λv w'=>.ok (.value v) w')=(.ok (.value (.slice p (k+n) cap)) w':Result Next):=by
   intro w' hw;simp only[Builtin.append_,List.getElem?_toArray,List.getElem?_cons_zero,List.getElem?_cons_succ,Sem.run_bind,nX,Result.andThen_ok,run_sizeOf hS ju,UZ,Sem.run_pure,if_true,Qh,hwr,if_neg Vg,hi0,Vf,if_neg Vh,Int.toNat_natCast,if_pos hle,Bool.not_true,Bool.false_eq_true,if_false,jB w];cases p with
   | none=>simp only at hw;subst hw;simp
   | some pa=>simp only at hw;simp[hw]
  rcases p with _|⟨b,off,_|sp⟩
  ·obtain⟨aaK,hK⟩:=hx;exact⟨_,w,h,.inl (by rw[fC];exact Kb w rfl),dn.refl hw,hK⟩
  ·obtain⟨cs,RC,hb,FJ,hK⟩:=hx;obtain⟨w',Iy,BV,Oa⟩:=iH (P:=P) b RC vs (off+k*te.size) 0 w cs (hw _ _ hb) (by simpa using FJ) eP;refine⟨_,w',_,.inl (fC.trans (Kb w' ?_)),dn.J7 hw hb _ (by simpa using BV) Oa,hK⟩;simp only[mw];exact Iy
  ·exact hx.elim
 ·obtain⟨hby,U0,iB,hold,hx⟩:=hx.2 (by omega);obtain⟨i,hi,BY,Uc⟩:=mG hS ju w;have U1:=yF (need:=k+n) (cap:=cap) (by omega);have tR:Builtin.nextslicecap (k+n) cap*te.bytes<=2 ^ 48:=by
   have h1:=Nat.mul_le_mul_right te.bytes U1;rw[Nat.mul_assoc]at h1;omega
  have Ke:∀ w1:World,w1.heap=w.heap->(Builtin.firstCells te.size k (.slice p k cap)).run P w1=.ok iB.toArray w1:=by
   intro w1 Iy;rcases p with _|⟨b,off,_|sp⟩
   ·rw[hold.2];rfl
   ·obtain⟨hl,hc⟩:=qT _ _ _ hold;simp only[Builtin.firstCells,loadCells];have:=run_loadCells (P:=P) (w:=w1) iB b off 0 #[] (λj v hj=>by
     have:=sx hw (hc j v hj);simp only[World.cell?,Iy]at this ⊢;simpa using this)
    rw[hl]at this;simpa using this
   ·exact hold.elim
  obtain⟨nc,RG,RH⟩:∃ nc,k+n<=nc/\(choose (.appendCap (k+n) cap el)).run P w=.ok nc {w with drawn:=w.drawn+1}:=by
   refine⟨_,?_,by simp[Question.forced];rfl⟩;simp only[Question.cut];omega
  have RI:¬(((k+n:Nat):Int) > IntKind.i64.max):=by
   have:(IntKind.i64.max:Int)=9223372036854775807:=by decide
   rw[this];omega
  refine⟨.slice (some ⟨w.heap.size,0,none⟩) (k+n) nc,{w with drawn:=w.drawn+1,heap:=w.heap.push (.cells (iB++vs++(List.replicate (nc-(k+n)) te.zero).flatten).toArray el)},_,.inl ?_,?_,hx _ nc (yL hw) RG⟩
  ·rw[fC];simp only[Builtin.append_,List.getElem?_toArray,List.getElem?_cons_zero,List.getElem?_cons_succ,Sem.run_bind,nX,Result.andThen_ok,run_sizeOf hS ju,UZ,Sem.run_pure,if_true,Qh,hwr,if_neg Vg,hi0,Vf,if_neg Vh,Int.toNat_natCast,if_neg hle,Bool.not_true,Bool.false_eq_true,if_false,hi,BY];rw[if_neg (by rintro⟨h1,_⟩;exact RI h1)];simp only[Sem.run_bind,Sem.run_pure,Result.andThen_ok,hi,BY];rw[if_neg (by omega)];simp only[Sem.run_bind,Sem.run_pure,Result.andThen_ok,RH,hi,BY,run_askRoom];obtain⟨i2,Cd,_,_⟩:=mG hS ju {w with drawn:=w.drawn+1};simp only[Cd,Result.andThen_ok];rw[Ke {w with drawn:=w.drawn+1} rfl];simp only[Result.andThen_ok];rw[jB {w with drawn:=w.drawn+1}];obtain⟨z',RJ,IB⟩:=kZ hS ju {w with drawn:=w.drawn+1};have Kf:z'.cells=te.zero.toArray:=by rw[<-IB]
   simp only[Result.andThen_ok,RJ,pR,Kf,Go.newRow,Sem.run_bind,run_newObj,Sem.run_pure];simp
  ·have:=dn.push hw (.cells (iB++vs++(List.replicate (nc-(k+n)) te.zero).flatten).toArray el);exact⟨this.view,this.aJ,this.x9,this.size,this.fz,rfl,rfl,rfl⟩
theorem FT (hS:dQ P S) {ti te:TI} {b off dl dc sl sc:Nat} {p:Option Addr} {vs cs:List Value} {t':TypeId} {Kr:Value->Heap->Prop}
  (dj:S.ty.find t=some ti) (qV:ti.d=.sl el) (ju:S.ty.find el=some te) (BW:e.get x=.v (.slice (some ⟨b,off,none⟩) dl dc)) (Od:e.get y=.v (.slice p sl sc))
  (hr:(p=none/\vs=[])\/∃ b2 o2,p=some ⟨b2,o2,none⟩/\fj h b2 o2 (Nat.min sl dl*te.size)=some vs) (hb:h b=some (.cells cs.toArray t' (0,0))) (hl:off+vs.length<=cs.length) (hc:eu vs=true)
  (hk:Kr (.int .i64 (Nat.min sl dl:Nat)) (h.set b (.cells (eS cs off vs).toArray t' (0,0)))):Raw P ⟨dst,.call {callee:=.builtin .copy,args:=#[x,y],argTypes:=#[t,u]},ty,pos,af,g⟩ e h Kr:=by
 rw[nL];unfold Al;refine⟨?_,λρ wv w hw=>?_⟩
 ·intro z hz;simp only[Op.operands,Call.operands]at hz;have:z=x\/z=y:=by simpa using hz
  rcases this with rfl|rfl
  ·exact⟨_,BW⟩
  ·exact⟨_,Od⟩
 have e1:=wv x (by simp[Op.operands,Call.operands]);have e2:=wv y (by simp[Op.operands,Call.operands]);rw[BW]at e1;rw[Od]at e2;injection e1 with e1
 injection e2 with e2
 obtain⟨d,nX,jI,fT⟩:=dB hS dj w;rw[qV]at fT;cases d<;>simp only[nJ]at fT<;>try cases fT
 have fC:(execOp ρ ⟨dst,.call {callee:=.builtin .copy,args:=#[x,y],argTypes:=#[t,u]},ty,pos,af,g⟩).run P w=((Builtin.copy_ #[t,u] ty #[.slice (some ⟨b,off,none⟩) dl dc,.slice p sl sc]).run P w).andThen (λv w'=>.ok (.value v) w'):=by
  simp[execOp,resolve,invoke,builtin,<-e1,<-e2]
 have hlen:(Builtin.lenOf (.slice p sl sc)).run P w=.ok sl w:=rfl;have Df:(Builtin.firstCells te.size (Nat.min sl dl) (.slice p sl sc)).run P w=.ok vs.toArray w:=by
  rcases hr with ⟨rfl,rfl⟩|⟨b2,o2,rfl,jB⟩
  ·rfl
  ·obtain⟨hl2,JS⟩:=qT _ _ _ jB;simp only[Builtin.firstCells,loadCells];have:=run_loadCells (P:=P) (w:=w) vs b2 o2 0 #[] (λj v hj=>by
    have:=sx hw (JS j v hj);simpa using this)
   rw[hl2]at this;simpa using this
 obtain⟨w',Iy,BV,Oa⟩:=iH (P:=P) b t' vs off 0 w cs.toArray (hw _ _ hb) (by simpa using hl) hc;refine⟨_,w',_,.inl ?_,dn.J7 hw hb _ (by simpa using BV) Oa,hk⟩;rw[fC];simp only[Builtin.copy_,List.getElem?_toArray,List.getElem?_cons_zero,List.getElem?_cons_succ,Sem.run_bind,nX,Result.andThen_ok,hlen,run_sizeOf hS ju,Df];have:(storeCells ⟨b,off,none⟩ vs).run P w=.ok () w':=Iy;simp[this,goInt]
def Vi (P:Program) (S:oD) (res:List ResultVar) (R:Value->Heap->Prop) (g:FuncId) (cv:List Value) (u:FrameMode) (e:Env) (h:Heap):Prop :=
 ∀ w:World,(∀ b o,h b=some o->w.heap[b]? = some o)->CallsD P g cv.toArray u w λen u' w'=>(∃ v,en=.returned v)/\settle u'=.returning/\∃ h',dn h w h' w'/\ic S e h' res λvs=>lM (λv=>R v h') vs
structure FU (P:Program) (S:oD) (res:List ResultVar) (R:Value->Heap->Prop) (g:FuncId) (cv:List Value) (u:FrameMode) (e:Env) (h:Heap):Prop where
 run:Vi P S res R g cv u e h
theorem Rel.defer {D:List Deferred} {n:Nat} {h0 h:Heap} {w0 w:World} {β:Nat->Nat} {e:Env} {a:Act} (r:Rel D n h0 w0 β e h a w) (d:Deferred):Rel (d::D) n h0 w0 β e h {a with defers:=d::a.defers} w where
 size:=r.size
 yx:=by show d::a.defers=_;rw[r.yx]
 slot:=r.slot
 box:=r.box
 inj:=r.inj
 mv:=r.mv
theorem AL {P:Program} {S:oD} (hS:dQ P S) {D:List Deferred} {n:Nat} {h0:Heap} {w0:World} {F:Fs} {ops:Array Oper} (hd:∀ o∈ops.toList,∀ d',o.dst=some d'->d' < n) {K:Env->Heap->Prop} {Q:Exit->Act->World->Prop} (rest:List Nat)
  (hk:∀ e' h' sw a' w',K e' h'->Rel D n h0 w0 sw e' h' a' w'->wpOps P ops Q rest a' w') :
  ∀(l:List Oper) (k:Nat) (e:Env) (h:Heap) (β:Nat->Nat) (a:Act) (w:World),(∀ j,j < l.length->l[j]? = ops[k+j]?)->Rel D n h0 w0 β e h a w ->
   Dv P S F ops.toList K (λ_ _=>False) l e h->wpOps P ops Q (List.range' k l.length++rest) a w
 | [],k,e,h,β,a,w,_,r,hx=>hk _ _ β _ _ hx r
 | o::l,k,e,h,β,a,w,hl,r,hx=>by
  have h0:ops[k]? = some o:=by simpa using (hl 0 (by simp)).symm
  rw[List.length_cons,List.range'_succ,List.cons_append,wpOps_cons];refine qY hS h0 r (hd o (by rw[<-Array.getElem?_toList]at h0;exact List.mem_of_getElem? h0)) hx (λe' h' sw a' w' hK hR=>?_) (λ_ _ _ _ hE=>hE.elim);exact AL hS hd rest hk l (k+1) e' h' sw a' w' (λj hj=>by have:=hl (j+1) (by simpa using hj);simpa [Nat.add_assoc,Nat.add_comm 1 j]using this) hR hK
def Qi (P:Program) (S:oD) (F:Fs) (res:List ResultVar) (R:Value->Heap->Prop) (A T:Code) (d:Nat) (g:FuncId) (uQ:List Operand) (tU pre:List Oper) (aaS:Option Nat) (cf:Operand) (yN:List Operand) (args:List Value) (h:Heap):Prop :=
 den P S F A (λex e1 h1=>match ex with
  | .normal=>aW e1 uQ λcv=>Dv P S F tU (λe2 h2=>match e2.get cf with
   | .v fv=>aW e2 yN λav=>qS P S false fv av h2 (λs _ h3=>den P S F T (λex e4 h4=>match ex with
     | .normal=>FU P S res R g cv .returning e4 h4
     | .ret=>FU P S res R g cv .returning e4 h4
     | _=>False) (e2.put aaS s none) h3) (λc h3=>FU P S res R g cv (.panicking c) e2 h3)
   | _=>False) (λ_ _=>False) pre (e1.put (some d) (.v (.func (.func g) #[] ⟨cv⟩)) none) h1
  | _=>False) (lu args) h
theorem tV {P:Program} {S:oD} (hS:dQ P S) {fn:Func} {R:Value->Heap->Prop} {g:FuncId} {cv:List Value} {u:FrameMode} {e:Env} {h h0:Heap} {n:Nat} {w0 w:World} {β:Nat->Nat} {a:Act} {D:List Deferred}
  (hu:u≠.run) (AF:Nat.ble S.lo g=true) (RE:Nat.blt g S.nf=true) (r:Rel D n h0 w0 β e h a w) (hx:FU P S fn.results.toList R g cv u e h) :
  Leaves P fn a.tmps (λen w'=>∃ h',dn h0 w0 h' w'/\match en with
   | .returned v=>R v h'
   | .panicked _=>False
   | .outgrown=>False) [{target:=.fn (.func g) ⟨cv⟩,args:=#[]}] u w:=by
 obtain⟨gn,US,AG,Kg⟩:=hS.fn g (Nat.le_of_ble_eq_true AF) (by have:=RE;simp[Nat.blt]at this;omega);refine leaves_cons (f:=g) (args:=cv.toArray) hu ?_ ?_
 ·simp only[invoke,callFunc,run_program,Sem.run_bind,Sem.run_pure,Result.andThen_ok,US,Kg,Bool.false_eq_true,if_false,AG];simp
 ·refine(hx.run w r.mv.view).mono ?_;rintro en u' w' ⟨⟨v,rfl⟩,hs,h',m,jv⟩;simp only[hs];have r2:Rel D n h0 w0 β e h' a w':=by
   have:=r.put m none (λ_ hd=>by cases hd) (s:=.v undef) (v:=undef) rfl;simpa [Env.put,Act.put]using this
  obtain⟨v,h1,h2⟩:=od (R:=λo h'=>match o with | .ret v=>R v h' | .lY _=>False) hS r2 jv;exact⟨v,h1,h',r2.mv,h2⟩
theorem FV {P:Program} {S:oD} (hS:dQ P S) (F:Fs) {f:FuncId} {fn:Func} {A T:Code} {i1 i2 d:Nat} {g:FuncId} {uQ yN:Array Operand} {t1 t2:TypeId} {p1 p2:String} {af1 af2:Array Edge} {tU:Array Oper} {pre:List Oper} {last:Oper} {cf:Operand} {ts:Array TypeId} {args:List Value} {k:Nat} {h:Heap} {R:Value->Heap->Prop}
  (hf:P.funcs[f]? = some fn)
  (hb:fn.body=some (A.seq ((Code.region i1 #[⟨some d,.makeFunc (.func g) #[] uQ,t1,p1,af1,none⟩,⟨none,.defer ⟨.value (.tmp d),#[],#[]⟩,t2,p2,af2,none⟩] false).seq ((Code.region i2 tU false).seq T))))
  (eP:aL F fn k=true) (hk:args.length=k) (Ot:tU.toList=pre++[last]) (hg:last.guard=none) (AF:last.op=.call {callee:=.value cf,args:=yN,argTypes:=ts})
  (Ky:Nat.ble S.lo g=true) (Kz:Nat.blt g S.nf=true)
  (hx:Qi P S F fn.results.toList R A T d g uQ.toList tU.toList pre last.dst cf yN.toList args h):bI P f args h R:=by
 subst hk;simp only[aL,hb,Code.lq,Code.jX,Bool.and_eq_true]at eP;obtain⟨⟨hn,hdA,U2,hd2,Vj⟩,hpA,_,_,hpT⟩:=eP;have hn:=Nat.le_of_ble_eq_true hn;have nX:d < fn.ntmps:=tS U2 _ (List.mem_cons_self) d rfl;intro w hv;have key:=calls_of_wp_defers (P:=P) (f:=f) (args:=args.toArray) (w:=w) (R:=λen w'=>∃ h',dn h w h' w'/\match en with
   | .returned v=>R v h'
   | .panicked _=>False
   | .outgrown=>False) hf hb ?_
 ·refine key.mono ?_;rintro en w' ⟨h',m,hh⟩;refine⟨h',m,?_⟩;cases en<;>exact hh
 refine wp_seq (wp_mono (sB hS F A _ _ _ _ _ _ hdA (pZ hS A hdA hpA) hx (wu hn hv)) ?_);intro ex a1 w1 dx;cases ex with
 | exit i=>obtain⟨_,_,_,hx,_⟩:=dx;exact hx.elim
 | ret=>obtain⟨_,_,_,hx,_⟩:=dx;exact hx.elim
 | panic c=>obtain⟨_,_,hx,_⟩:=dx;exact hx.elim
 | goto l=>exact dx.elim
 | outgrown=>exact dx.elim
 | normal =>
  obtain⟨β1,e1,h1,Hs,r1⟩:=dx;obtain⟨cv,Hs,l1,l2⟩:=mH _ _ Hs;have gF:=qW r1 l1 l2;refine wp_seq (wp_region ?_);have r2:=r1.put (dn.refl r1.mv.view) (some d) (λd' FN=>by cases FN;exact nX) (s:=.v (.func (.func g) #[] ⟨cv⟩)) (v:=.func (.func g) #[] ⟨cv⟩) rfl;show wpOps P _ _ [0,1] a1 w1;rw[wpOps_cons];unfold wpOp;simp only[List.getElem?_toArray,List.getElem?_cons_zero,Region.wanted,if_true];refine .inl ?_;have e1r:(execOp a1.eval ⟨some d,.makeFunc (.func g) #[] uQ,t1,p1,af1,none⟩).run P w1=.ok (.value (.func (.func g) #[] ⟨cv⟩)) w1:=by
   simp[execOp,gF,Instr.makeFunc,Sem.run_bind]
  unfold Oper.wp;rw[e1r];simp only[Oper.upon];rw[wpOps_cons];unfold wpOp;simp only[List.getElem?_toArray,List.getElem?_cons_succ,List.getElem?_cons_zero,Region.wanted,if_true];refine .inl ?_;have hfd:(a1.put (some d) (.func (.func g) #[] ⟨cv⟩)).eval (.tmp d)=.func (.func g) #[] ⟨cv⟩:=r2.eval (by simp[Env.get,Env.put]);have e2r:(execOp (a1.put (some d) (.func (.func g) #[] ⟨cv⟩)).eval ⟨none,.defer ⟨.value (.tmp d),#[],#[]⟩,t2,p2,af2,none⟩).run P w1=.ok (.defer ⟨.fn (.func g) ⟨cv⟩,#[]⟩) w1:=by
   simp[execOp,resolve,hfd,Deferred.ofValue,Sem.run_bind,Sem.run_pure,Result.andThen_ok]
  unfold Oper.wp;rw[e2r];simp only[Oper.upon,wpOps,Act.put];have r3:=r2.defer ⟨.fn (.func g) ⟨cv⟩,#[]⟩;refine wp_seq (wp_region ?_);have hsz:tU.size=pre.length+1:=by rw[<-Array.length_toList,Ot];simp
  have DS:tU[pre.length]? = some last:=by rw[<-Array.getElem?_toList,Ot];simp
  have hr:List.range tU.size=List.range' 0 pre.length++[pre.length]:=by
   rw[hsz,List.range_eq_range',List.range'_append_1 (s:=0) (m:=pre.length) (n:=1) |>.symm];simp
  rw[hr];refine AL hS (tS hd2) _ ?_ pre 0 _ _ β1 _ _ (λj hj=>by rw[Nat.zero_add,<-Array.getElem?_toList,Ot,List.getElem?_append_left hj]) r3 Hs;intro e2 h2 β2 a2 w2 FW r4;rw[wpOps_cons];unfold wpOp;simp only[DS,Region.wanted,hg,if_true];refine .inl ?_;split at FW
  case h_2=>exact FW.elim
  rename_i fv hfv;obtain⟨vs,FW,m1,m2⟩:=mH _ _ FW;have hargs:=qW r4 m1 m2;unfold qS at FW;split at FW
  ·rename_i g' first captured hx9;split at FW
   ·rename_i aaT aaU;obtain⟨fn',aaV,RQ,RR⟩:=hS.fn g' (Nat.le_of_ble_eq_true aaT) (by have:=aaU;simp[Nat.blt]at this;omega);rw[bL]at FW;have fC:(execOp a2.eval last).run P w2=.ok (.enter g' (first++vs.toArray++captured)) w2:=by
     simp only[execOp,AF,resolve,r4.eval hfv,Deferred.ofValue,hargs,Sem.run_bind,Sem.run_pure,Result.andThen_ok,invoke,callFunc,run_program,aaV,RR,Bool.false_eq_true,if_false,RQ]
    have qX:(first.toList++vs++captured.toList).toArray=first++vs.toArray++captured:=by
     apply Array.ext';simp
    have FW:=FW.run;unfold yp at FW;unfold Oper.wp;rw[fC];simp only[Oper.upon];rw[<-qX];refine(FW w2 r4.mv.view).mono ?_;rintro en w3 ⟨h3,m,hm⟩;cases en with
    | outgrown=>exact hm.elim
    | returned v =>
     have r5:=r4.put m last.dst (tS hd2 last (by rw[Ot];simp)) (s:=.v v) (v:=v) rfl;refine wp_mono (sB hS F T _ _ _ _ _ _ Vj (pZ hS T Vj hpT) hm r5) ?_;intro ex a5 w5 dx;cases ex with
     | normal=>obtain⟨sw,e',h',hK,hR⟩:=dx;show Leaves _ _ _ _ a5.defers _ _;rw[hR.yx];exact tV hS (by simp) Ky Kz hR hK
     | ret=>obtain⟨sw,e',h',hK,hR⟩:=dx;show Leaves _ _ _ _ a5.defers _ _;rw[hR.yx];exact tV hS (by simp) Ky Kz hR hK
     | exit i=>obtain⟨_,_,_,hx,_⟩:=dx;exact hx.elim
     | panic c=>obtain⟨_,_,hx,_⟩:=dx;exact hx.elim
     | goto l=>exact dx.elim
     | outgrown=>exact dx.elim
    | panicked c =>
     have r5:=r4.put m none (λ_ hd=>by cases hd) (s:=.v undef) (v:=undef) rfl;simp only[Env.put,Act.put]at r5;show Leaves _ _ _ _ a2.defers _ _;rw[r5.yx];exact tV hS (by simp) Ky Kz r5 hm
   ·exact FW.elim
  ·exact FW.elim
theorem DT {P:Program} {S:oD} (hS:dQ P S) (F:Fs) {f:FuncId} {fn:Func} {A T:Code} {i1 i2 d:Nat} {g:FuncId} {uQ yN:Array Operand} {t1 t2:TypeId} {p1 p2:String} {af1 af2:Array Edge} {tU:Array Oper} {last:Oper} {cf:Operand} {ts:Array TypeId} {args:List Value} {k:Nat} {h:Heap} {R:Value->Heap->Prop} (m:Nat)
  (hf:P.funcs[f]? = some fn) (eP:aL F fn k=true) (hk:args.length=k)
  (hb:fn.body=some (A.seq ((Code.region i1 #[⟨some d,.makeFunc (.func g) #[] uQ,t1,p1,af1,none⟩,⟨none,.defer ⟨.value (.tmp d),#[],#[]⟩,t2,p2,af2,none⟩] false).seq ((Code.region i2 tU false).seq T))))
  (hm:tU.size=m+1) (hl:tU[m]? = some last) (hg:last.guard=none) (AF:last.op=.call {callee:=.value cf,args:=yN,argTypes:=ts})
  (Ky:Nat.ble S.lo g=true) (Kz:Nat.blt g S.nf=true)
  (hx:Qi P S F fn.results.toList R A T d g uQ.toList tU.toList (tU.toList.take m) last.dst cf yN.toList args h):bI P f args h R:=by
 refine FV hS F hf hb eP hk ?_ hg AF Ky Kz hx;rw[<-Array.getElem?_toList]at hl;have hlen:tU.toList.length=m+1:=by rw[Array.length_toList,hm]
 obtain⟨gE,Ht⟩:=List.getElem?_eq_some_iff.1 hl;rw[<-Ht];apply List.ext_getElem?
 intro j;by_cases hj:j < m
 ·rw[List.getElem?_append_left (by simp;omega),List.getElem?_take_of_lt hj]
 ·rw[List.getElem?_append_right (by simp;omega)];by_cases hj2:j=m
  ·subst hj2;simp only[List.length_take,hlen];rw[show min j (j+1)=j by omega];simp[gE]
  ·rw[List.getElem?_eq_none (by omega),List.getElem?_eq_none];simp;omega
def Found (v:Value) (u:FrameMode):Prop:=(u=.returning/\v=.nilIface)\/u=.panicking [{v,recovered:=false}]
theorem Hy {P:Program} {S:oD} (hS:dQ P S) (F:Fs) {g:FuncId} {gn:Func} {i d:Nat} {t0:TypeId} {p0:String} {af:Array Edge} {ts:Array TypeId} {T:Code} {cv:List Value} {k:Nat} {h:Heap} {res:List ResultVar} {R:Value->Heap->Prop} {e:Env} {u:FrameMode} {v:Value}
  (hu:Found v u) (hf:P.funcs[g]? = some gn) (hb:gn.body=some ((Code.region i #[⟨some d,.call ⟨.builtin .recover,#[],ts⟩,t0,p0,af,none⟩] false).seq T)) (hr:gn.results = #[])
  (eP:aL F gn k=true) (hk:cv.length=k)
  (hx:den P S F T (λex _ h'=>match ex with
   | .normal=>ic S e h' res λvs=>lM (λv=>R v h') vs
   | .ret=>ic S e h' res λvs=>lM (λv=>R v h') vs
   | _=>False) ((lu cv).put (some d) (.v v) none) h):FU P S res R g cv u e h:=by
 subst hk;simp only[aL,hb,Code.lq,Code.jX,Bool.and_eq_true]at eP;obtain⟨⟨hn,U2,Vj⟩,_,hpT⟩:=eP;have hn:=Nat.le_of_ble_eq_true hn;have nX:d < gn.ntmps:=tS U2 _ (List.mem_cons_self) d rfl;refine⟨λw hv=>callsD_of_wpS (c:=(Code.region i #[⟨some d,.call ⟨.builtin .recover,#[],ts⟩,t0,p0,af,none⟩] false).seq T) hf hb λc0 cs hm=>?_⟩;have r0:=wu (fn:=gn) hn hv;have r1:=r0.put (dn.refl r0.mv.view) (some d) (λd' FN=>by cases FN;exact nX) (s:=.v v) (v:=v) rfl;apply wpS_seq
 apply wpS_region
 show wpOpsS P _ _ [0] _ _ _;have run:∀(ρ:Operand->Value),(execOp ρ ⟨some d,.call ⟨.builtin .recover,#[],ts⟩,t0,p0,af,none⟩).run P w=.ok .recover w:=by
  intro ρ;simp[execOp,resolve,invoke,builtin]
 have fin:∀ jU u',settle u'=.returning->jU = {c0 with mode:=u' }::cs->T.wpS P (bodyPostS P gn c0 cs λen u' w'=>(∃ v,en=.returned v)/\settle u'=.returning/\∃ h',dn h w h' w'/\ic S e h' res λvs=>lM (λv=>R v h') vs) (({tmps:=cv.toArray++Array.replicate (gn.ntmps-cv.toArray.size) undef,defers:=[]}:Act).put (some d) v) jU w:=by
  intro jU u' hs hcs;refine wpS_of_wp (wp_mono (sB hS F T _ _ _ _ _ _ Vj (pZ hS T Vj hpT) hx r1) ?_);intro ex a5 w5 dx;have jv:(results gn a5.tmps).run P w5=.ok (.tuple #[]) w5:=by
   unfold results;rw[hr];simp[Sem.run_bind,Sem.run_pure]
  cases ex with
  | normal=>obtain⟨sw,e',h',hK,hR⟩:=dx;exact⟨hR.yx,u',hcs,_,jv,⟨_,rfl⟩,hs,h',hR.mv,hK⟩
  | ret=>obtain⟨sw,e',h',hK,hR⟩:=dx;exact⟨hR.yx,u',hcs,_,jv,⟨_,rfl⟩,hs,h',hR.mv,hK⟩
  | exit i=>obtain⟨_,_,_,hx,_⟩:=dx;exact hx.elim
  | panic c=>obtain⟨_,_,hx,_⟩:=dx;exact hx.elim
  | goto l=>exact dx.elim
  | outgrown=>exact dx.elim
 have hc0:c0 = {c0 with mode:=c0.mode}:=rfl;simp only[wpOpsS,List.getElem?_toArray,List.getElem?_cons_zero,Region.wanted,if_true,run];rcases hu with ⟨rfl,rfl⟩|rfl
 ·simp only[recoverD,hm];exact fin _ .returning rfl (by rw[<-hm])
 ·simp only[recoverD,hm];exact fin _ (.panicking [{v,recovered:=true}]) rfl rfl
end Go.Vc
namespace Go.Proofs
open Go.Vc Go.Proofs.Tryz
def Q_:PT:=.one 13 (.one 14 .nil)
def P_:PT:=.one 3 (.one 5 (.one 6 .nil))
def N_:PT:=.one 3 (.one 8 (.one 9 .nil))
def M_:PT:=.one 9 (.one 10 (.one 11 .nil))
def L_:PT:=.one 7 (.one 12 (.one 13 .nil))
def K_:PT:=.one 17 (.one 18 (.one 19 .nil))
def J_:PT:=.one 16 (.one 17 (.one 18 .nil))
def H_:PT:=.one 19 (.one 22 (.one 24 .nil))
def G_:PT:=.one 11 (.one 12 Q_)
def F_:PT:=.one 15 J_
def D_:PT:=.one 7 (.one 10 (.one 11 Q_))
def C_:PT:=.one 16 (.one 17 (.one 18 (.one 19 (.one 20 .nil))))
def B_:PT:=.one 14 (.one 15 (.one 16 K_))
theorem z_ (h:Heap):h.le h:=Heap.le_refl h
theorem y_ {a b c:Heap} (h:a.le b) (k:b.le c):a.le c:=Heap.le_trans h k
theorem x_ {α:Type} {l:List α} {i:Nat} (h:i<l.length):l[i]∈l:=List.getElem_mem h
theorem w_ {α:Type} {l:List α} {i:Nat} (h:i<l.length):l[i]?=some l[i]:=List.getElem?_eq_getElem h
theorem v_ {α:Type} (a b:α):((some a:Option α)=some b)=(a=b):=Option.some.injEq a b
theorem u_ {α:Type} {a:α} {s t:List α}:a∈s++t↔a∈s\/a∈t:=List.mem_append
theorem Z_ (a:Option Addr) (b c:Nat) (d:Option Addr) (e f:Nat):(Value.slice a b c=.slice d e f)=(a=d/\b=e/\c=f):=Value.slice.injEq a b c d e f
theorem Y_ {a:Nat} {s t:List Nat}:(s++t).count a=s.count a+t.count a:=List.count_append
theorem X_ {a b:Nat} {l:List Nat}:(b::l).count a=l.count a+if b==a then 1 else 0:=List.count_cons
theorem W_ {a:Nat} {l:List Nat}:0<l.count a↔a∈l:=List.count_pos_iff
theorem V_ {α:Type} {a b:α}:a∈[b]↔a=b:=List.mem_singleton
theorem U_ {α:Type} {l k:List α}:(l++k).length=l.length+k.length:=List.length_append
theorem T_ {p q:Prop} (h:p) (k:q):p/\q:=⟨h,k⟩
theorem S_ {α:Type} {l:List α} {i:Nat} {a:α}:l.getD i a=l[i]?.getD a:=List.getD_eq_getElem?_getD
def Tryz.sig:Go.Vc.oD:=⟨.node (.node (.node (.node (.node (.node (.node (.node (.leaf) 1 ⟨1,8,[.nilFunc],false,.dU⟩ (.leaf)) 2 ⟨1,8,[.int .i64 0],false,.num .i64⟩ (.node (.leaf) 3 ⟨1,8,[.int .i64 0],false,.num .i64⟩ (.leaf))) 4 ⟨1,1,[.bool false],false,.bas⟩ (.node (.node (.leaf) 5 ⟨1,1,[.int .u8 0],false,.num .u8⟩ (.leaf)) 6 ⟨1,1,[.int .u8 0],false,.num .u8⟩ (.node (.leaf) 7 ⟨4,24,[.int .i64 0,.int .i64 0,.bool false,.int .u8 0],true,.str [(0,2),(1,3),(2,4),(3,6)]⟩ (.leaf)))) 8 ⟨4,24,[.int .i64 0,.int .i64 0,.bool false,.int .u8 0],true,.str [(0,2),(1,3),(2,4),(3,6)]⟩ (.node (.node (.node (.leaf) 9 ⟨1,16,[.string ⟨#[]⟩],false,.UO⟩ (.leaf)) 10 ⟨1,16,[.string ⟨#[]⟩],false,.UO⟩ (.node (.leaf) 11 ⟨1,16,[.string ⟨#[]⟩],false,.UO⟩ (.leaf))) 12 ⟨1,8,[.int .u64 0],false,.num .u64⟩ (.node (.node (.leaf) 13 ⟨2,24,[.string ⟨#[]⟩,.int .u64 0],true,.str [(0,9),(1,12)]⟩ (.leaf)) 14 ⟨2,24,[.string ⟨#[]⟩,.int .u64 0],true,.str [(0,9),(1,12)]⟩ (.leaf)))) 15 ⟨1,8,[.pointer none],false,.ptr 234⟩ (.node (.node (.node (.node (.leaf) 16 ⟨1,8,[.pointer none],false,.ptr 237⟩ (.leaf)) 17 ⟨1,8,[.pointer none],false,.ptr 245⟩ (.node (.leaf) 18 ⟨1,8,[.pointer none],true,.str [(0,17)]⟩ (.leaf))) 19 ⟨1,8,[.pointer none],true,.str [(0,17)]⟩ (.node (.node (.leaf) 20 ⟨1,16,[.nilIface],false,.UP⟩ (.leaf)) 21 ⟨1,4,[.int .i32 0],false,.num .i32⟩ (.leaf))) 22 ⟨1,24,[.slice none 0 0],false,.sl 5⟩ (.node (.node (.node (.leaf) 23 ⟨1,24,[.slice none 0 0],false,.sl 116⟩ (.leaf)) 24 ⟨1,24,[.slice none 0 0],false,.sl 57⟩ (.node (.leaf) 25 ⟨2,48,[.slice none 0 0,.slice none 0 0],true,.str [(0,23),(1,24)]⟩ (.leaf))) 26 ⟨2,48,[.slice none 0 0,.slice none 0 0],true,.str [(0,23),(1,24)]⟩ (.node (.node (.leaf) 27 ⟨1,24,[.slice none 0 0],false,.sl 46⟩ (.leaf)) 28 ⟨1,24,[.slice none 0 0],false,.sl 39⟩ (.leaf))))) 29 ⟨1,24,[.slice none 0 0],false,.sl 3⟩ (.node (.node (.node (.node (.node (.leaf) 30 ⟨2,16,[.bool false,.int .i64 0],true,.str [(0,4),(1,3)]⟩ (.leaf)) 31 ⟨2,16,[.bool false,.int .i64 0],true,.str [(0,4),(1,3)]⟩ (.node (.leaf) 32 ⟨7,104,[.slice none 0 0,.slice none 0 0,.slice none 0 0,.int .i64 0,.int .i64 0,.bool false,.int .i64 0],true,.str [(0,27),(1,28),(2,29),(3,3),(4,3),(5,31)]⟩ (.leaf))) 33 ⟨7,104,[.slice none 0 0,.slice none 0 0,.slice none 0 0,.int .i64 0,.int .i64 0,.bool false,.int .i64 0],true,.str [(0,27),(1,28),(2,29),(3,3),(4,3),(5,31)]⟩ (.node (.node (.leaf) 35 ⟨1,8,[.nilFunc],false,.dU⟩ (.leaf)) 36 ⟨1,8,[.nilFunc],false,.dU⟩ (.node (.leaf) 37 ⟨1,24,[.slice none 0 0],false,.sl 31⟩ (.leaf)))) 38 ⟨4,64,[.int .i64 0,.int .i64 0,.slice none 0 0,.slice none 0 0],true,.str [(0,3),(1,3),(2,37),(3,37)]⟩ (.node (.node (.node (.leaf) 39 ⟨4,64,[.int .i64 0,.int .i64 0,.slice none 0 0,.slice none 0 0],true,.str [(0,3),(1,3),(2,37),(3,37)]⟩ (.leaf)) 40 ⟨3,24,[.int .i64 0,.int .i64 0,.int .i64 0],true,.str [(0,3),(1,3),(2,3)]⟩ (.node (.leaf) 41 ⟨3,24,[.int .i64 0,.int .i64 0,.int .i64 0],true,.str [(0,3),(1,3),(2,3)]⟩ (.leaf))) 43 ⟨1,8,[.nilFunc],false,.dU⟩ (.node (.node (.leaf) 44 ⟨1,8,[.nilFunc],false,.dU⟩ (.leaf)) 45 ⟨2,32,[.int .i64 0,.slice none 0 0],true,.str [(0,3),(1,37)]⟩ (.leaf)))) 46 ⟨2,32,[.int .i64 0,.slice none 0 0],true,.str [(0,3),(1,37)]⟩ (.node (.node (.node (.node (.leaf) 47 ⟨1,8,[.nilFunc],false,.dU⟩ (.leaf)) 48 ⟨1,8,[.nilFunc],false,.dU⟩ (.node (.leaf) 50 ⟨1,8,[.nilFunc],false,.dU⟩ (.leaf))) 51 ⟨1,8,[.nilFunc],false,.dU⟩ (.node (.node (.leaf) 52 ⟨1,8,[.nilFunc],false,.dU⟩ (.leaf)) 53 ⟨1,24,[.slice none 0 0],false,.sl 41⟩ (.leaf))) 54 ⟨1,24,[.slice none 0 0],false,.sl 87⟩ (.node (.node (.node (.leaf) 55 ⟨1,24,[.slice none 0 0],false,.sl 138⟩ (.leaf)) 56 ⟨8,128,[.int .i64 0,.int .i64 0,.slice none 0 0,.int .i64 0,.int .i64 0,.slice none 0 0,.slice none 0 0,.slice none 0 0],true,.str [(0,3),(1,3),(2,29),(3,3),(4,3),(5,53),(6,54),(7,55)]⟩ (.node (.leaf) 57 ⟨8,128,[.int .i64 0,.int .i64 0,.slice none 0 0,.int .i64 0,.int .i64 0,.slice none 0 0,.slice none 0 0,.slice none 0 0],true,.str [(0,3),(1,3),(2,29),(3,3),(4,3),(5,53),(6,54),(7,55)]⟩ (.leaf))) 58 ⟨1,8,[.nilFunc],false,.dU⟩ (.node (.node (.leaf) 59 ⟨1,8,[.nilFunc],false,.dU⟩ (.leaf)) 60 ⟨1,8,[.nilFunc],false,.dU⟩ (.leaf)))))) 61 ⟨1,8,[.pointer none],false,.ptr 83⟩ (.node (.node (.node (.node (.node (.node (.leaf) 62 ⟨1,8,[.nilFunc],false,.dU⟩ (.leaf)) 63 ⟨1,8,[.nilFunc],false,.dU⟩ (.node (.leaf) 64 ⟨1,8,[.nilFunc],false,.dU⟩ (.leaf))) 65 ⟨1,8,[.nilFunc],false,.dU⟩ (.node (.node (.leaf) 66 ⟨1,8,[.nilFunc],false,.dU⟩ (.leaf)) 67 ⟨1,8,[.nilFunc],false,.dU⟩ (.node (.leaf) 68 ⟨1,8,[.nilFunc],false,.dU⟩ (.leaf)))) 69 ⟨1,8,[.nilFunc],false,.dU⟩ (.node (.node (.node (.leaf) 70 ⟨1,8,[.nilFunc],false,.dU⟩ (.leaf)) 71 ⟨1,8,[.nilFunc],false,.dU⟩ (.node (.leaf) 72 ⟨1,1,[.int .i8 0],false,.num .i8⟩ (.leaf))) 73 ⟨1,1,[.int .i8 0],false,.num .i8⟩ (.node (.node (.leaf) 74 ⟨5,40,[.nilFunc,.nilFunc,.nilFunc,.nilFunc,.nilFunc],true,.arr 5 70⟩ (.leaf)) 75 ⟨1,8,[.nilFunc],false,.dU⟩ (.leaf)))) 76 ⟨1,8,[.nilFunc],false,.dU⟩ (.node (.node (.node (.node (.leaf) 77 ⟨1,8,[.nilFunc],false,.dU⟩ (.leaf)) 78 ⟨1,8,[.nilFunc],false,.dU⟩ (.node (.leaf) 79 ⟨1,8,[.nilFunc],false,.dU⟩ (.leaf))) 80 ⟨1,8,[.nilFunc],false,.dU⟩ (.node (.node (.leaf) 81 ⟨1,8,[.nilFunc],false,.dU⟩ (.leaf)) 82 ⟨2,32,[.slice none 0 0,.int .i64 0],true,.str [(0,22),(1,3)]⟩ (.leaf))) 83 ⟨2,32,[.slice none 0 0,.int .i64 0],true,.str [(0,22),(1,3)]⟩ (.node (.node (.node (.leaf) 84 ⟨1,8,[.nilFunc],false,.dU⟩ (.leaf)) 85 ⟨1,8,[.nilFunc],false,.dU⟩ (.node (.leaf) 86 ⟨3,56,[.bool false,.slice none 0 0,.slice none 0 0],true,.str [(0,4),(1,29),(2,29)]⟩ (.leaf))) 87 ⟨3,56,[.bool false,.slice none 0 0,.slice none 0 0],true,.str [(0,4),(1,29),(2,29)]⟩ (.node (.node (.leaf) 88 ⟨1,8,[.nilFunc],false,.dU⟩ (.leaf)) 89 ⟨1,8,[.nilFunc],false,.dU⟩ (.leaf))))) 90 ⟨1,8,[.nilFunc],false,.dU⟩ (.node (.node (.node (.node (.node (.leaf) 91 ⟨1,8,[.nilFunc],false,.dU⟩ (.leaf)) 92 ⟨1,8,[.nilFunc],false,.dU⟩ (.node (.leaf) 93 ⟨1,8,[.nilFunc],false,.dU⟩ (.leaf))) 94 ⟨1,8,[.int .i64 0],true,.str [(0,3)]⟩ (.node (.node (.leaf) 95 ⟨1,8,[.int .i64 0],true,.str [(0,3)]⟩ (.leaf)) 97 ⟨1,8,[.nilFunc],false,.dU⟩ (.node (.leaf) 98 ⟨1,8,[.pointer none],false,.ptr 33⟩ (.leaf)))) 99 ⟨1,8,[.nilFunc],false,.dU⟩ (.node (.node (.node (.leaf) 100 ⟨1,8,[.nilFunc],false,.dU⟩ (.leaf)) 101 ⟨1,8,[.nilFunc],false,.dU⟩ (.node (.leaf) 102 ⟨1,8,[.nilFunc],false,.dU⟩ (.leaf))) 103 ⟨1,8,[.nilFunc],false,.dU⟩ (.node (.node (.leaf) 104 ⟨1,8,[.nilFunc],false,.dU⟩ (.leaf)) 105 ⟨1,8,[.pointer none],false,.ptr 107⟩ (.leaf)))) 106 ⟨11,168,[.slice none 0 0,.slice none 0 0,.slice none 0 0,.slice none 0 0,.slice none 0 0,.int .i64 0,.int .i64 0,.bool false,.int .i64 0,.bool false,.int .i64 0],true,.str [(0,26),(2,33),(9,4),(10,3)]⟩ (.node (.node (.node (.node (.leaf) 107 ⟨11,168,[.slice none 0 0,.slice none 0 0,.slice none 0 0,.slice none 0 0,.slice none 0 0,.int .i64 0,.int .i64 0,.bool false,.int .i64 0,.bool false,.int .i64 0],true,.str [(0,26),(2,33),(9,4),(10,3)]⟩ (.leaf)) 108 ⟨1,8,[.nilFunc],false,.dU⟩ (.node (.leaf) 109 ⟨1,8,[.nilFunc],false,.dU⟩ (.leaf))) 110 ⟨1,8,[.nilFunc],false,.dU⟩ (.node (.node (.leaf) 111 ⟨1,8,[.map none],false,.dU⟩ (.leaf)) 112 ⟨1,8,[.nilFunc],false,.dU⟩ (.leaf))) 113 ⟨1,8,[.nilFunc],false,.dU⟩ (.node (.node (.node (.leaf) 114 ⟨1,8,[.nilFunc],false,.dU⟩ (.leaf)) 115 ⟨2,32,[.int .i64 0,.slice none 0 0],true,.str [(0,3),(1,29)]⟩ (.node (.leaf) 116 ⟨2,32,[.int .i64 0,.slice none 0 0],true,.str [(0,3),(1,29)]⟩ (.leaf))) 117 ⟨1,8,[.nilFunc],false,.dU⟩ (.node (.node (.leaf) 118 ⟨1,8,[.nilFunc],false,.dU⟩ (.leaf)) 119 ⟨1,8,[.nilFunc],false,.dU⟩ (.leaf))))))) 120 ⟨1,8,[.nilFunc],false,.dU⟩ (.node (.node (.node (.node (.node (.node (.node (.leaf) 121 ⟨1,8,[.nilFunc],false,.dU⟩ (.leaf)) 122 ⟨1,8,[.nilFunc],false,.dU⟩ (.node (.leaf) 123 ⟨1,8,[.nilFunc],false,.dU⟩ (.leaf))) 124 ⟨1,8,[.nilFunc],false,.dU⟩ (.node (.node (.leaf) 125 ⟨1,8,[.nilFunc],false,.dU⟩ (.leaf)) 126 ⟨1,8,[.nilFunc],false,.dU⟩ (.node (.leaf) 127 ⟨1,8,[.nilFunc],false,.dU⟩ (.leaf)))) 128 ⟨1,8,[.nilFunc],false,.dU⟩ (.node (.node (.node (.leaf) 129 ⟨1,8,[.nilFunc],false,.dU⟩ (.leaf)) 130 ⟨1,8,[.nilFunc],false,.dU⟩ (.node (.leaf) 131 ⟨1,8,[.nilFunc],false,.dU⟩ (.leaf))) 132 ⟨1,8,[.nilFunc],false,.dU⟩ (.node (.node (.leaf) 134 ⟨1,8,[.nilFunc],false,.dU⟩ (.leaf)) 135 ⟨1,8,[.nilFunc],false,.dU⟩ (.leaf)))) 136 ⟨1,8,[.nilFunc],false,.dU⟩ (.node (.node (.node (.node (.leaf) 137 ⟨4,32,[.int .i64 0,.int .i64 0,.int .i64 0,.int .i64 0],true,.str [(0,3),(1,3),(2,3),(3,3)]⟩ (.leaf)) 138 ⟨4,32,[.int .i64 0,.int .i64 0,.int .i64 0,.int .i64 0],true,.str [(0,3),(1,3),(2,3),(3,3)]⟩ (.node (.leaf) 139 ⟨1,8,[.nilFunc],false,.dU⟩ (.leaf))) 140 ⟨1,8,[.nilFunc],false,.dU⟩ (.node (.node (.leaf) 141 ⟨1,8,[.nilFunc],false,.dU⟩ (.leaf)) 142 ⟨1,8,[.nilFunc],false,.dU⟩ (.leaf))) 143 ⟨1,8,[.nilFunc],false,.dU⟩ (.node (.node (.node (.leaf) 144 ⟨1,8,[.pointer none],false,.ptr 176⟩ (.leaf)) 145 ⟨1,8,[.nilFunc],false,.dU⟩ (.node (.leaf) 146 ⟨1,8,[.pointer none],false,.ptr 39⟩ (.leaf))) 147 ⟨1,8,[.nilFunc],false,.dU⟩ (.node (.node (.leaf) 148 ⟨1,8,[.nilFunc],false,.dU⟩ (.leaf)) 149 ⟨1,8,[.nilFunc],false,.dU⟩ (.leaf))))) 150 ⟨1,8,[.nilFunc],false,.dU⟩ (.node (.node (.node (.node (.node (.leaf) 151 ⟨1,8,[.nilFunc],false,.dU⟩ (.leaf)) 152 ⟨1,8,[.nilFunc],false,.dU⟩ (.node (.leaf) 153 ⟨1,8,[.int .i64 0],false,.num .i64⟩ (.leaf))) 154 ⟨2,16,[.int .i64 0,.int .i64 0],true,.str [(0,153),(1,153)]⟩ (.node (.node (.leaf) 155 ⟨2,16,[.int .i64 0,.int .i64 0],true,.str [(0,153),(1,153)]⟩ (.leaf)) 156 ⟨1,8,[.nilFunc],false,.dU⟩ (.node (.leaf) 158 ⟨1,8,[.nilFunc],false,.dU⟩ (.leaf)))) 159 ⟨1,8,[.nilFunc],false,.dU⟩ (.node (.node (.node (.leaf) 160 ⟨1,8,[.nilFunc],false,.dU⟩ (.leaf)) 161 ⟨1,8,[.nilFunc],false,.dU⟩ (.node (.leaf) 162 ⟨1,24,[.slice none 0 0],false,.sl 124⟩ (.leaf))) 163 ⟨1,8,[.nilFunc],false,.dU⟩ (.node (.node (.leaf) 165 ⟨1,8,[.nilFunc],false,.dU⟩ (.leaf)) 166 ⟨1,8,[.nilFunc],false,.dU⟩ (.leaf)))) 167 ⟨1,8,[.nilFunc],false,.dU⟩ (.node (.node (.node (.node (.leaf) 168 ⟨1,8,[.nilFunc],false,.dU⟩ (.leaf)) 170 ⟨1,8,[.nilFunc],false,.dU⟩ (.node (.leaf) 171 ⟨1,8,[.nilFunc],false,.dU⟩ (.leaf))) 172 ⟨1,8,[.nilFunc],false,.dU⟩ (.node (.node (.leaf) 173 ⟨9,136,[.pointer none,.int .i64 0,.int .i64 0,.slice none 0 0,.int .i64 0,.int .i64 0,.slice none 0 0,.slice none 0 0,.slice none 0 0],true,.str [(0,146),(1,57)]⟩ (.leaf)) 174 ⟨9,136,[.pointer none,.int .i64 0,.int .i64 0,.slice none 0 0,.int .i64 0,.int .i64 0,.slice none 0 0,.slice none 0 0,.slice none 0 0],true,.str [(0,146),(1,57)]⟩ (.leaf))) 175 ⟨12,192,[.pointer none,.int .i64 0,.int .i64 0,.slice none 0 0,.int .i64 0,.int .i64 0,.slice none 0 0,.slice none 0 0,.slice none 0 0,.slice none 0 0,.slice none 0 0,.pointer none],true,.str [(0,174),(9,26),(11,98)]⟩ (.node (.node (.node (.leaf) 176 ⟨12,192,[.pointer none,.int .i64 0,.int .i64 0,.slice none 0 0,.int .i64 0,.int .i64 0,.slice none 0 0,.slice none 0 0,.slice none 0 0,.slice none 0 0,.slice none 0 0,.pointer none],true,.str [(0,174),(9,26),(11,98)]⟩ (.leaf)) 177 ⟨1,8,[.nilFunc],false,.dU⟩ (.node (.leaf) 178 ⟨1,8,[.nilFunc],false,.dU⟩ (.leaf))) 179 ⟨1,8,[.nilFunc],false,.dU⟩ (.node (.node (.leaf) 180 ⟨1,8,[.nilFunc],false,.dU⟩ (.leaf)) 181 ⟨1,8,[.pointer none],false,.ptr 46⟩ (.leaf)))))) 182 ⟨1,8,[.nilFunc],false,.dU⟩ (.node (.node (.node (.node (.node (.node (.leaf) 183 ⟨1,8,[.nilFunc],false,.dU⟩ (.leaf)) 184 ⟨1,8,[.nilFunc],false,.dU⟩ (.node (.leaf) 185 ⟨1,16,[.nilIface],false,.UP⟩ (.leaf))) 186 ⟨1,16,[.nilIface],false,.UP⟩ (.node (.node (.leaf) 187 ⟨1,8,[.nilFunc],false,.dU⟩ (.leaf)) 188 ⟨0,0,[],true,.str []⟩ (.node (.leaf) 189 ⟨0,0,[],true,.str []⟩ (.leaf)))) 190 ⟨1,1,[.bool false],true,.str [(0,4)]⟩ (.node (.node (.node (.leaf) 191 ⟨1,1,[.bool false],true,.str [(0,4)]⟩ (.leaf)) 192 ⟨1,8,[.int .i64 0],true,.str [(0,3)]⟩ (.node (.leaf) 193 ⟨1,8,[.int .i64 0],true,.str [(0,3)]⟩ (.leaf))) 194 ⟨1,8,[.nilFunc],false,.dU⟩ (.node (.node (.leaf) 195 ⟨1,8,[.nilFunc],false,.dU⟩ (.leaf)) 196 ⟨1,8,[.nilFunc],false,.dU⟩ (.leaf)))) 197 ⟨1,8,[.nilFunc],false,.dU⟩ (.node (.node (.node (.node (.leaf) 198 ⟨1,8,[.nilFunc],false,.dU⟩ (.leaf)) 199 ⟨1,8,[.nilFunc],false,.dU⟩ (.node (.leaf) 200 ⟨1,8,[.nilFunc],false,.dU⟩ (.leaf))) 201 ⟨1,8,[.nilFunc],false,.dU⟩ (.node (.node (.leaf) 202 ⟨1,24,[.slice none 0 0],false,.sl 204⟩ (.leaf)) 203 ⟨1,8,[.nilFunc],false,.dU⟩ (.leaf))) 204 ⟨1,8,[.int .i64 0],false,.num .i64⟩ (.node (.node (.node (.leaf) 205 ⟨1,8,[.nilFunc],false,.dU⟩ (.leaf)) 206 ⟨1,8,[.nilFunc],false,.dU⟩ (.node (.leaf) 207 ⟨1,8,[.nilFunc],false,.dU⟩ (.leaf))) 208 ⟨1,8,[.nilFunc],false,.dU⟩ (.node (.node (.leaf) 209 ⟨1,8,[.nilFunc],false,.dU⟩ (.leaf)) 210 ⟨1,8,[.pointer none],false,.ptr 31⟩ (.leaf))))) 211 ⟨1,8,[.nilFunc],false,.dU⟩ (.node (.node (.node (.node (.node (.leaf) 212 ⟨1,8,[.nilFunc],false,.dU⟩ (.leaf)) 213 ⟨0,0,[],true,.str []⟩ (.node (.leaf) 214 ⟨0,0,[],true,.str []⟩ (.leaf))) 215 ⟨1,8,[.nilFunc],false,.dU⟩ (.node (.node (.leaf) 217 ⟨1,8,[.nilFunc],false,.dU⟩ (.leaf)) 218 ⟨1,8,[.nilFunc],false,.dU⟩ (.node (.leaf) 219 ⟨1,8,[.int .u64 0],false,.num .u64⟩ (.leaf)))) 221 ⟨1,8,[.nilFunc],false,.dU⟩ (.node (.node (.node (.leaf) 222 ⟨1,8,[.nilFunc],false,.dU⟩ (.leaf)) 223 ⟨1,8,[.nilFunc],false,.dU⟩ (.node (.leaf) 224 ⟨1,4,[.int .u32 0],false,.num .u32⟩ (.leaf))) 226 ⟨1,8,[.nilFunc],false,.dU⟩ (.node (.node (.leaf) 227 ⟨1,8,[.int .u64 0],false,.num .u64⟩ (.leaf)) 229 ⟨1,8,[.nilFunc],false,.dU⟩ (.leaf)))) 231 ⟨1,8,[.nilFunc],false,.dU⟩ (.node (.node (.node (.node (.leaf) 232 ⟨1,8,[.nilFunc],false,.dU⟩ (.leaf)) 233 ⟨4,40,[.pointer none,.pointer none,.pointer none,.string ⟨#[]⟩],true,.str [(0,17),(1,17),(2,17),(3,9)]⟩ (.node (.leaf) 234 ⟨4,40,[.pointer none,.pointer none,.pointer none,.string ⟨#[]⟩],true,.str [(0,17),(1,17),(2,17),(3,9)]⟩ (.leaf))) 235 ⟨0,0,[],true,.arr 0 16⟩ (.node (.node (.leaf) 238 ⟨1,1,[.int .u8 0],false,.num .u8⟩ (.leaf)) 239 ⟨1,1,[.int .u8 0],false,.num .u8⟩ (.leaf))) 240 ⟨1,8,[.nilFunc],false,.dU⟩ (.node (.node (.node (.leaf) 241 ⟨1,8,[.pointer none],false,.ptr 5⟩ (.leaf)) 242 ⟨1,4,[.int .i32 0],false,.num .i32⟩ (.node (.leaf) 243 ⟨1,4,[.int .i32 0],false,.num .i32⟩ (.leaf))) 244 ⟨11,48,[.int .u64 0,.int .u64 0,.int .u32 0,.int .u8 0,.int .u8 0,.int .u8 0,.int .u8 0,.nilFunc,.pointer none,.int .i32 0,.int .i32 0],true,.str [(0,12),(1,12),(2,224),(3,238),(4,5),(5,5),(6,239),(7,240),(8,241),(9,242),(10,243)]⟩ (.node (.node (.leaf) 245 ⟨11,48,[.int .u64 0,.int .u64 0,.int .u32 0,.int .u8 0,.int .u8 0,.int .u8 0,.int .u8 0,.nilFunc,.pointer none,.int .i32 0,.int .i32 0],true,.str [(0,12),(1,12),(2,224),(3,238),(4,5),(5,5),(6,239),(7,240),(8,241),(9,242),(10,243)]⟩ (.leaf)) 246 ⟨1,8,[.pointer none],false,.dU⟩ (.leaf))))))),3,219⟩
theorem Tryz.au:dQ prog sig:=dQ.mk' (by kernel_rfl) (by kernel_rfl) (by kernel_rfl) (by kernel_rfl)
def Tryz.F11:Fs:={L:=[2,3,4]}
theorem Tryz.aaW:aL F11 Tryz.f11 2=true:=by kernel_rfl
def Tryz.F12:Fs:={L:=[2,3,4,5,7],LL:=[44,46,48,53],trees:=[(4,(.one 1 (.one 3 (.one 8 (.one 0 (.alt 2 (.alt 4 (.one 5 (.one 6 (.alt 7 (.alt 9 (.one 10 (.alt 11 (.one 12 Q_) (.alt 12 (.one 11 Q_) .eO))) (.alt 12 (.one 9 (.one 10 (.one 11 Q_))) .eO)) (.alt 9 (.alt 7 (.one 10 (.alt 11 (.one 12 Q_) (.alt 12 (.one 11 Q_) .eO))) (.alt 12 D_ .eO)) (.alt 12 (.one 9 D_) .eO))))) (.alt 9 (.alt 4 (.one 5 (.one 6 (.alt 7 (.one 10 (.alt 11 (.one 12 Q_) (.alt 12 (.one 11 Q_) .eO))) (.alt 12 D_ .eO)))) (.alt 12 (.one 4 (.one 5 (.one 6 D_))) .eO)) (.alt 12 (.one 4 (.one 5 (.one 6 (.one 9 D_)))) .eO))) (.alt 4 (.alt 2 (.one 5 (.one 6 (.alt 7 (.alt 9 (.one 10 (.alt 11 (.one 12 Q_) (.alt 12 (.one 11 Q_) .eO))) (.alt 12 (.one 9 (.one 10 (.one 11 Q_))) .eO)) (.alt 9 (.alt 7 (.one 10 (.alt 11 (.one 12 Q_) (.alt 12 (.one 11 Q_) .eO))) (.alt 12 D_ .eO)) (.alt 12 (.one 9 D_) .eO))))) (.alt 9 (.alt 2 (.one 5 (.one 6 (.alt 7 (.one 10 (.alt 11 (.one 12 Q_) (.alt 12 (.one 11 Q_) .eO))) (.alt 12 D_ .eO)))) (.alt 12 (.one 2 (.one 5 (.one 6 D_))) .eO)) (.alt 12 (.one 2 (.one 5 (.one 6 (.one 9 D_)))) .eO))) (.alt 9 (.alt 2 (.alt 4 (.one 5 (.one 6 (.alt 7 (.one 10 (.alt 11 (.one 12 Q_) (.alt 12 (.one 11 Q_) .eO))) (.alt 12 D_ .eO)))) (.alt 12 (.one 4 (.one 5 (.one 6 D_))) .eO)) (.alt 4 (.alt 2 (.one 5 (.one 6 (.alt 7 (.one 10 (.alt 11 (.one 12 Q_) (.alt 12 (.one 11 Q_) .eO))) (.alt 12 D_ .eO)))) (.alt 12 (.one 2 (.one 5 (.one 6 D_))) .eO)) (.alt 12 (.one 2 (.one 4 (.one 5 (.one 6 D_)))) .eO))) (.alt 12 (.one 2 (.one 4 (.one 5 (.one 6 (.one 9 D_))))) .eO)))))))))]}
theorem Tryz.aaX:aL F12 Tryz.f12 2=true:=by kernel_rfl
def Tryz.F13:Fs:={L:=[2,3,6,7]}
theorem Tryz.aaY:aL F13 Tryz.f13 2=true:=by kernel_rfl
def Tryz.F14:Fs:={L:=[2,3,4]}
theorem Tryz.aaZ:aL F14 Tryz.f14 2=true:=by kernel_rfl
def Tryz.F15:Fs:={cq:=[(6,[0,1,2,4,5,6,3,7,8])]}
theorem Tryz.aa0:aL F15 Tryz.f15 2=true:=by kernel_rfl
def Tryz.F16:Fs:={L:=[8]}
theorem Tryz.aa1:aL F16 Tryz.f16 3=true:=by kernel_rfl
def Tryz.F17:Fs:={cq:=[(6,[0,1,2,3,5,6,7,8,4,9,10,11,12,13,14,15,17,18,19,20,16,21,22,23,24])]}
theorem Tryz.aa2:aL F17 Tryz.f17 2=true:=by kernel_rfl
def Tryz.F20:Fs:={L:=[2,3],LL:=[50,52,64,79,81],cq:=[(7,[1,3,6,0,2,4,5,7,8,9,10,11,12,13,15,14,16,17,18,19,20,21]),(12,[1,3,6,0,2,4,5,7,8])]}
theorem Tryz.aa3:aL F20 Tryz.f20 2=true:=by kernel_rfl
def Tryz.F21:Fs:={L:=[2,3]}
theorem Tryz.aa4:aL F21 Tryz.f21 2=true:=by kernel_rfl
def Tryz.F22:Fs:={cq:=[(6,[0,1,2,4,5,6,3,7,8])]}
theorem Tryz.aa5:aL F22 Tryz.f22 2=true:=by kernel_rfl
def Tryz.F23:Fs:={}
theorem Tryz.aa6:aL F23 Tryz.f23 1=true:=by kernel_rfl
def Tryz.F24:Fs:={cq:=[(7,[0,1,2,4,5,6,7,15,16,17,19,20,21,22,23,24,33,34,36,37,38,39,3,8,9,10,11,12,13,14,18,25,26,27,28,29,30,31,32,35,40,41,42,43,44,45])]}
theorem Tryz.aa7:aL F24 Tryz.f24 2=true:=by kernel_rfl
def Tryz.F27:Fs:={L:=[2,4,5]}
theorem Tryz.aa8:aL F27 Tryz.f27 2=true:=by kernel_rfl
def Tryz.F28:Fs:={L:=[3]}
theorem Tryz.aa9:aL F28 Tryz.f28 1=true:=by kernel_rfl
def Tryz.F29:Fs:={L:=[2,3,4,6]}
theorem Tryz.Vk:aL F29 Tryz.f29 2=true:=by kernel_rfl
def Tryz.F30:Fs:={L:=[2,3],LL:=[29,31,33,38,40],cq:=[(6,[1,3,5,10,12,0,2,4,6,7,9,11,13,8,14,15,16,17])]}
theorem Tryz.aba:aL F30 Tryz.f30 2=true:=by kernel_rfl
def Tryz.F31:Fs:={L:=[1,2,3,6,34,64],LL:=[18,20,27],trees:=[(6,(.one 0 (.one 2 (.one 4 (.one 9 (.one 11 (.one 1 (.one 3 (.one 5 (.one 6 (.one 10 (.one 12 (.one 13 (.alt 7 (.alt 8 (.one 14 (.one 15 C_)) (.alt 14 (.one 8 (.one 15 C_)) .eO)) (.alt 8 (.alt 7 (.one 14 (.one 15 C_)) (.alt 14 (.alt 7 (.one 15 C_) (.alt 15 (.one 7 C_) .eO)) .eO)) (.alt 14 (.alt 7 (.one 8 (.one 15 C_)) (.alt 8 (.alt 7 (.one 15 C_) (.alt 15 (.one 7 C_) .eO)) .eO)) .eO))))))))))))))))]}
theorem Tryz.abb:aL F31 Tryz.f31 1=true:=by kernel_rfl
def Tryz.F32:Fs:={L:=[2,3,4,6],LL:=[8,9,22,24,26,37,39,44,64,65],cq:=[(1,[0,1,2,3,4,5]),(3,[0,2,4,1,3,5,6,7,8,9,10]),(5,[0,1,3,8,2,4,5,6,9,7,10,11,12]),(8,[0,1,2,3,4,5])],M:=[68]}
theorem Tryz.abc:aL F32 Tryz.f32 2=true:=by kernel_rfl
def Tryz.F33:Fs:={}
theorem Tryz.abd:aL F33 Tryz.f33 1=true:=by kernel_rfl
def Tryz.F34:Fs:={}
theorem Tryz.abe:aL F34 Tryz.f34 2=true:=by kernel_rfl
def Tryz.F35:Fs:={}
theorem Tryz.abf:aL F35 Tryz.f35 2=true:=by kernel_rfl
def Tryz.F36:Fs:={}
theorem Tryz.abg:aL F36 Tryz.f36 2=true:=by kernel_rfl
def Tryz.F37:Fs:={}
theorem Tryz.abh:aL F37 Tryz.f37 2=true:=by kernel_rfl
def Tryz.F38:Fs:={L:=[1,3,6]}
theorem Tryz.abi:aL F38 Tryz.f38 1=true:=by kernel_rfl
def Tryz.F39:Fs:={}
theorem Tryz.abj:aL F39 Tryz.f39 2=true:=by kernel_rfl
def Tryz.F40:Fs:={L:=[3,9]}
theorem Tryz.abk:aL F40 Tryz.f40 3=true:=by kernel_rfl
def Tryz.F41:Fs:={L:=[1],LL:=[45,47],cq:=[(8,[1,3,0,2,4,5,6,7])]}
theorem Tryz.abl:aL F41 Tryz.f41 1=true:=by kernel_rfl
def Tryz.F42:Fs:={}
theorem Tryz.abm:aL F42 Tryz.f42 3=true:=by kernel_rfl
def Tryz.F43:Fs:={L:=[2]}
theorem Tryz.abn:aL F43 Tryz.f43 2=true:=by kernel_rfl
def Tryz.F44:Fs:={L:=[3,4],LL:=[25,27,33,36,38],cq:=[(5,[0,2,1,3,4,5,6,7,8,11,13,9,10,12,14,15,16,17,18,19])]}
theorem Tryz.abo:aL F44 Tryz.f44 3=true:=by kernel_rfl
def Tryz.F45:Fs:={L:=[3,4],LL:=[8,10,16,18,20,29,32,34,42,48,54],cq:=[(1,[0,2,1,3,4,5,6,7,8,10,12,9,11,13,14,15,16,17,18,19,20,21,24,26,22,23,25,27,28,29,30,31,32,33,34,35,36,37,38,39,40,42,41,43,44,45,46,48,47,49,50,51])]}
theorem Tryz.abp:aL F45 Tryz.f45 3=true:=by kernel_rfl
def Tryz.F46:Fs:={}
theorem Tryz.abq:aL F46 Tryz.f46 1=true:=by kernel_rfl
def Tryz.F47:Fs:={L:=[1]}
theorem Tryz.abr:aL F47 Tryz.f47 1=true:=by kernel_rfl
def Tryz.F48:Fs:={}
theorem Tryz.abt:aL F48 Tryz.f48 2=true:=by kernel_rfl
def Tryz.F49:Fs:={L:=[2,3]}
theorem Tryz.abu:aL F49 Tryz.f49 1=true:=by kernel_rfl
def Tryz.F50:Fs:={L:=[4]}
theorem Tryz.abv:aL F50 Tryz.f50 2=true:=by kernel_rfl
def Tryz.F53:Fs:={L:=[0]}
theorem Tryz.abw:aL F53 Tryz.f53 0=true:=by kernel_rfl
def Tryz.F55:Fs:={L:=[18]}
theorem Tryz.abx:aL F55 Tryz.f55 2=true:=by kernel_rfl
def Tryz.F56:Fs:={L:=[4,5,6,47]}
theorem Tryz.aby:aL F56 Tryz.f56 3=true:=by kernel_rfl
def Tryz.F57:Fs:={L:=[3,4,5],LL:=[111,113,115],cq:=[(32,[0,1,2,4,6,3,5,7,8,9,10,11,12,13])]}
theorem Tryz.abz:aL F57 Tryz.f57 3=true:=by kernel_rfl
def Tryz.F58:Fs:={L:=[1,2],LL:=[8],trees:=[(3,(.one 1 (.alt 0 (.alt 2 (.alt 3 (.one 4 (.one 5 (.one 6 .nil))) (.alt 4 P_ .eO)) (.alt 4 (.one 2 P_) .eO)) (.alt 4 (.one 0 (.one 2 P_)) .eO))))]}
theorem Tryz.abA:aL F58 Tryz.f58 1=true:=by kernel_rfl
def Tryz.F59:Fs:={L:=[1,2,3,5,7,33,48],LL:=[9,12,14,16,26,28,30,45,46],cq:=[(1,[0,3,5,7,10,1,4,6,8,2,9,11]),(5,[0,2,4,1,3,5,6,7,8,9,10,11]),(10,[0,1,2,3,4,5,6,7])]}
theorem Tryz.abB:aL F59 Tryz.f59 1=true:=by kernel_rfl
def Tryz.F60:Fs:={L:=[2]}
theorem Tryz.abC:aL F60 Tryz.f60 2=true:=by kernel_rfl
def Tryz.F61:Fs:={L:=[3,9],LL:=[37,50,58,61],cq:=[(3,[0,1,2,4,5,6,3,7,8,9,10,11]),(4,[0,2,3,4,10,1,5,6,7,8,9]),(7,[1,2,3,0,4,5,6,7,9,10,8,11,12,13]),(11,[0,1,2,3,5,6,7,4,8,9,10,11,12,13,14])]}
theorem Tryz.abD:aL F61 Tryz.f61 3=true:=by kernel_rfl
def Tryz.F62:Fs:={L:=[1],LL:=[14,16],cq:=[(4,[1,3,0,2,4,5,6,7,8,9,10,11])]}
theorem Tryz.abE:aL F62 Tryz.f62 1=true:=by kernel_rfl
def Tryz.F63:Fs:={L:=[4],LL:=[22],cq:=[(6,[0,2,3,4,5,8,9,10,1,6,11,7,12,13])]}
theorem Tryz.abF:aL F63 Tryz.f63 4=true:=by kernel_rfl
def Tryz.F64:Fs:={L:=[2,3,27]}
theorem Tryz.abG:aL F64 Tryz.f64 2=true:=by kernel_rfl
def Tryz.F65:Fs:={L:=[3,4,7,10],LL:=[18,20,22,75,77,79,84],cq:=[(2,[1,3,0,2,4,5,6,7,8,9,10,11,12]),(10,[1,3,8,0,2,4,5,6,9,7,10,11,12,13])]}
theorem Tryz.abH:aL F65 Tryz.f65 3=true:=by kernel_rfl
def Tryz.F66:Fs:={L:=[3]}
theorem Tryz.Vm:aL F66 Tryz.f66 2=true:=by kernel_rfl
def Tryz.F67:Fs:={}
theorem Tryz.abI:aL F67 Tryz.f67 3=true:=by kernel_rfl
def Tryz.RS:Fs:={L:=[3]}
theorem Tryz.IG:aL RS Tryz.f68 2=true:=by kernel_rfl
def Tryz.F69:Fs:={cq:=[(5,[0,1,2,3,5,6,7,4,8,9,10,11,12]),(9,[0,1,2,4,5,6,7,9,10,11,12,3,8,13,14,15,16,17,18,19,20,22,23,24,25,26,21,27,28,29]),(12,[0,1,2,3,4,6,7,8,9,5,10,11,12,13,14,15,16,17])]}
theorem Tryz.abJ:aL F69 Tryz.f69 2=true:=by kernel_rfl
def Tryz.F70:Fs:={L:=[3,5]}
theorem Tryz.abK:aL F70 Tryz.f70 1=true:=by kernel_rfl
def Tryz.F71:Fs:={}
theorem Tryz.abL:aL F71 Tryz.f71 0=true:=by kernel_rfl
def Tryz.F72:Fs:={L:=[2,3],LL:=[62,66,67],cq:=[(14,[0,1,2,3,4,5,6,7,8,9,10,11])]}
theorem Tryz.abM:aL F72 Tryz.f72 2=true:=by kernel_rfl
def Tryz.F73:Fs:={L:=[3,4,8,9,12]}
theorem Tryz.abN:aL F73 Tryz.f73 3=true:=by kernel_rfl
def Tryz.F74:Fs:={L:=[2,3,6]}
theorem Tryz.abO:aL F74 Tryz.f74 2=true:=by kernel_rfl
def Tryz.F75:Fs:={L:=[1,4,6]}
theorem Tryz.abP:aL F75 Tryz.f75 1=true:=by kernel_rfl
def Tryz.F76:Fs:={}
theorem Tryz.abQ:aL F76 Tryz.f76 1=true:=by kernel_rfl
def Tryz.F77:Fs:={L:=[2,3],LL:=[40,41,43,51,53,55,69,70,72],cq:=[(6,[2,4,0,1,3,5,6,7,8,9,10,12,14,16,11,13,15,17,18,19,20,21]),(11,[2,4,0,1,3,5,6,7,8])]}
theorem Tryz.abR:aL F77 Tryz.f77 2=true:=by kernel_rfl
def Tryz.F78:Fs:={L:=[1,5,6]}
theorem Tryz.abS:aL F78 Tryz.f78 1=true:=by kernel_rfl
def Tryz.F79:Fs:={}
theorem Tryz.abT:aL F79 Tryz.f79 2=true:=by kernel_rfl
def Tryz.F80:Fs:={cq:=[(3,[0,1,2,3,4,7,8,9,10,11,5,6,12,13])]}
theorem Tryz.abU:aL F80 Tryz.f80 2=true:=by kernel_rfl
def Tryz.F81:Fs:={L:=[2]}
theorem Tryz.abV:aL F81 Tryz.f81 2=true:=by kernel_rfl
def Tryz.F82:Fs:={L:=[2]}
theorem Tryz.abW:aL F82 Tryz.f82 2=true:=by kernel_rfl
def Tryz.F83:Fs:={L:=[3],LL:=[7,11,15,24,29,37,43,49],cq:=[(1,[1,2,0,3,4,5,7,9,6,10,8,11,12,13,14,15,16,17,18,21,23,19,20,24,22,25,26,27,28,29,30,31,32,33,34,35,36,37,38,39,40,41,42,43,44,45,46,47,48])]}
theorem Tryz.abX:aL F83 Tryz.f83 3=true:=by kernel_rfl
def Tryz.F84:Fs:={L:=[2]}
theorem Tryz.abY:aL F84 Tryz.f84 2=true:=by kernel_rfl
def Tryz.F85:Fs:={}
theorem Tryz.abZ:aL F85 Tryz.f85 3=true:=by kernel_rfl
def Tryz.F86:Fs:={L:=[6]}
theorem Tryz.ab0:aL F86 Tryz.f86 2=true:=by kernel_rfl
def Tryz.F87:Fs:={}
theorem Tryz.ab1:aL F87 Tryz.f87 1=true:=by kernel_rfl
def Tryz.F88:Fs:={}
theorem Tryz.ab2:aL F88 Tryz.f88 1=true:=by kernel_rfl
def Tryz.F89:Fs:={}
theorem Tryz.ab3:aL F89 Tryz.f89 1=true:=by kernel_rfl
def Tryz.F90:Fs:={}
theorem Tryz.ab4:aL F90 Tryz.f90 1=true:=by kernel_rfl
def Tryz.F91:Fs:={}
theorem Tryz.ab5:aL F91 Tryz.f91 1=true:=by kernel_rfl
def Tryz.F92:Fs:={}
theorem Tryz.ab6:aL F92 Tryz.f92 2=true:=by kernel_rfl
def Tryz.F93:Fs:={}
theorem Tryz.ab7:aL F93 Tryz.f93 1=true:=by kernel_rfl
def Tryz.F94:Fs:={L:=[6]}
theorem Tryz.Vn:aL F94 Tryz.f94 2=true:=by kernel_rfl
def Tryz.F95:Fs:={L:=[1]}
theorem Tryz.ab8:aL F95 Tryz.f95 1=true:=by kernel_rfl
def Tryz.F96:Fs:={}
theorem Tryz.ab9:aL F96 Tryz.f96 3=true:=by kernel_rfl
def Tryz.F97:Fs:={L:=[3]}
theorem Tryz.aca:aL F97 Tryz.f97 3=true:=by kernel_rfl
def Tryz.F98:Fs:={L:=[3],LL:=[19,23,27],cq:=[(3,[0,1,2,3,4,5,8,9,6,7,10,11,12,13,14,15])]}
theorem Tryz.acb:aL F98 Tryz.f98 2=true:=by kernel_rfl
def Tryz.F99:Fs:={}
theorem Tryz.acd:aL F99 Tryz.f99 2=true:=by kernel_rfl
def Tryz.Vo:Fs:={L:=[6]}
theorem Tryz.Vp:aL Vo Tryz.f100 2=true:=by kernel_rfl
def Tryz.Vq:Fs:={}
theorem Tryz.Vr:aL Vq Tryz.f101 2=true:=by kernel_rfl
def Tryz.Vs:Fs:={L:=[1]}
theorem Tryz.Vt:aL Vs Tryz.f102 1=true:=by kernel_rfl
def Tryz.Vu:Fs:={L:=[6]}
theorem Tryz.Vv:aL Vu Tryz.f103 1=true:=by kernel_rfl
def Tryz.Vw:Fs:={L:=[4,5,6,42]}
theorem Tryz.Vx:aL Vw Tryz.f106 3=true:=by kernel_rfl
def Tryz.Vy:Fs:={L:=[2,3,7,10,53],LL:=[31,32,34],cq:=[(8,[0,1,2,5,7,3,4,6,8,9,10,11,12])]}
theorem Tryz.Vz:aL Vy Tryz.f107 2=true:=by kernel_rfl
def Tryz.VA:Fs:={L:=[3,5]}
theorem Tryz.VC:aL VA Tryz.f108 2=true:=by kernel_rfl
def Tryz.VD:Fs:={L:=[2,3,4,18],LL:=[16],cq:=[(5,[0,1,2,3,4,5,6])]}
theorem Tryz.VE:aL VD Tryz.f109 2=true:=by kernel_rfl
def Tryz.VF:Fs:={}
theorem Tryz.VG:aL VF Tryz.f111 2=true:=by kernel_rfl
def Tryz.VH:Fs:={L:=[13]}
theorem Tryz.VI:aL VH Tryz.f112 0=true:=by kernel_rfl
def Tryz.VJ:Fs:={L:=[3,6,7,27],LL:=[15,18,25],cq:=[(2,[0,3,5,1,2,4,6,7,8,9]),(3,[0,1,2,3,4,5,6])]}
theorem Tryz.VK:aL VJ Tryz.f113 3=true:=by kernel_rfl
def Tryz.VL:Fs:={}
theorem Tryz.VM:aL VL Tryz.f114 1=true:=by kernel_rfl
def Tryz.VN:Fs:={}
theorem Tryz.VO:aL VN Tryz.f115 1=true:=by kernel_rfl
def Tryz.VP:Fs:={L:=[1,2],LL:=[4,6,8,11],cq:=[(1,[0,2,4,7,1,3,5,8,6,9,10,11])]}
theorem Tryz.VQ:aL VP Tryz.f116 1=true:=by kernel_rfl
def Tryz.RT:Fs:={L:=[3]}
theorem Tryz.Qj:aL RT Tryz.f117 2=true:=by kernel_rfl
def Tryz.VR:Fs:={L:=[2],LL:=[19,27],cq:=[(1,[0,1,2,4,5,6,3,7,8,9,10,11]),(2,[0,1,3,4,5,11,2,10,6,7,8,9,12,13,14])]}
theorem Tryz.VS:aL VR Tryz.f118 2=true:=by kernel_rfl
def Tryz.Ou:Fs:={L:=[2,199],LL:=[84,99,122],cq:=[(0,[0,1,2,3,8,9,10,11,12,4,5,6,7,13,14,15]),(2,[0,1,2,3,4,6,7,8,9,16,5,10,11,12,13,14,15,17]),(13,[0,1,2,3,4,9,10,5,6,7,8,11,12,13]),(15,[0,1,2,3,8,10,11,9,4,5,6,7,12,13,14]),(21,[0,2,3,4,6,7,8,1,5,9,10,11,12,13,14,15]),(26,[0,1,2,4,5,6,3,7,8,9]),(28,[0,1,2,4,5,6,3,7,8,9])],trees:=[(39,(.one 0 (.one 1 (.one 2 (.one 4 (.one 5 (.one 6 (.one 11 (.one 12 (.one 13 (.alt 3 (.alt 7 (.one 8 (.one 9 (.one 10 B_))) (.alt 14 (.one 15 (.one 7 (.one 8 (.one 9 (.one 10 (.one 16 K_)))))) .eO)) (.alt 7 (.one 8 (.one 9 (.one 10 (.alt 3 B_ (.alt 14 (.one 15 (.alt 3 (.one 16 K_) (.alt 16 (.one 3 K_) .eO))) .eO))))) (.alt 14 (.one 15 (.alt 3 (.one 7 (.one 8 (.one 9 (.one 10 (.one 16 K_))))) (.alt 7 (.one 8 (.one 9 (.one 10 (.alt 3 (.one 16 K_) (.alt 16 (.one 3 K_) .eO))))) .eO))) .eO)))))))))))))],M:=[159]}
theorem Tryz.KA:aL Ou Tryz.f119 1=true:=by kernel_rfl
def Tryz.VT:Fs:={L:=[2]}
theorem Tryz.VU:aL VT Tryz.f120 2=true:=by kernel_rfl
def Tryz.RU:Fs:={}
theorem Tryz.Qk:aL RU Tryz.f121 3=true:=by kernel_rfl
def Tryz.VV:Fs:={L:=[2]}
theorem Tryz.VW:aL VV Tryz.f122 1=true:=by kernel_rfl
def Tryz.KB:Fs:={L:=[2,3]}
theorem Tryz.Hz:aL KB Tryz.f123 2=true:=by kernel_rfl
def Tryz.VX:Fs:={L:=[3,4,7,8],LL:=[16,18,23,38,40,42,52],cq:=[(2,[0,2,7,11,1,3,4,5,8,6,9,10,12]),(6,[0,2,4,6,7,14,16,1,3,5,8,9,15,17,18,10,11,12,13,19,20,21])]}
theorem Tryz.VY:aL VX Tryz.f124 3=true:=by kernel_rfl
def Tryz.VZ:Fs:={}
theorem Tryz.V0:aL VZ Tryz.f125 1=true:=by kernel_rfl
def Tryz.V1:Fs:={}
theorem Tryz.V2:aL V1 Tryz.f126 3=true:=by kernel_rfl
def Tryz.V3:Fs:={L:=[2]}
theorem Tryz.V4:aL V3 Tryz.f127 1=true:=by kernel_rfl
def Tryz.KC:Fs:={L:=[3,125],LL:=[17,64,86],cq:=[(3,[0,1,2,4,3,5,6]),(10,[0,1,2,3,5,6,4,7,8]),(12,[0,1,2,4,5,6,8,9,3,7,10,11]),(15,[0,1,2,3,5,6,7,10,4,8,9,11,12,13,14,15]),(16,[0,1,2,3,4,6,7,8,10,11,5,9,12,13,14,15,16,17,18])],trees:=[(6,(.one 1 (.one 2 (.one 3 (.one 5 (.one 6 (.one 7 (.one 10 (.alt 0 (.alt 4 (.one 8 (.one 9 G_)) (.alt 8 (.one 9 (.one 11 (.one 4 (.one 12 Q_)))) .eO)) (.alt 4 (.alt 0 (.one 8 (.one 9 G_)) (.alt 8 (.one 9 (.one 11 (.one 12 (.one 0 Q_)))) .eO)) (.alt 8 (.one 9 (.one 11 (.alt 0 (.one 4 (.one 12 Q_)) (.alt 4 (.one 12 (.one 0 Q_)) .eO)))) .eO)))))))))))],M:=[165]}
theorem Tryz.HA:aL KC Tryz.f128 2=true:=by kernel_rfl
def Tryz.V5:Fs:={L:=[3]}
theorem Tryz.V6:aL V5 Tryz.f129 1=true:=by kernel_rfl
def Tryz.V7:Fs:={}
theorem Tryz.V8:aL V7 Tryz.f130 2=true:=by kernel_rfl
def Tryz.V9:Fs:={cq:=[(1,[0,1,2,3,5,6,7,8,4,9,10,11,12,13])]}
theorem Tryz.Wa:aL V9 Tryz.f131 1=true:=by kernel_rfl
def Tryz.Wb:Fs:={L:=[3]}
theorem Tryz.Wc:aL Wb Tryz.f132 2=true:=by kernel_rfl
def Tryz.Wd:Fs:={L:=[3,5,82],LL:=[31,42],cq:=[(8,[0,1,2,3,5,6,4,7,8,9])],trees:=[(10,(.one 0 (.one 1 (.one 2 (.one 4 (.one 6 (.one 5 (.alt 3 (.one 7 (.one 8 (.one 9 .nil))) (.alt 7 N_ .eO)))))))))],M:=[163,164]}
theorem Tryz.We:aL Wd Tryz.f133 2=true:=by kernel_rfl
def Tryz.RV:Fs:={L:=[3]}
theorem Tryz.Ql:aL RV Tryz.f134 2=true:=by kernel_rfl
def Tryz.Wf:Fs:={L:=[2]}
theorem Tryz.Wg:aL Wf Tryz.f135 1=true:=by kernel_rfl
def Tryz.Wh:Fs:={}
theorem Tryz.Wi:aL Wh Tryz.f136 2=true:=by kernel_rfl
def Tryz.Wj:Fs:={L:=[1,11]}
theorem Tryz.Wk:aL Wj Tryz.f137 1=true:=by kernel_rfl
def Tryz.Wl:Fs:={L:=[5,6,7]}
theorem Tryz.Wm:aL Wl Tryz.f138 5=true:=by kernel_rfl
def Tryz.Wn:Fs:={L:=[5]}
theorem Tryz.Wo:aL Wn Tryz.f139 3=true:=by kernel_rfl
def Tryz.Wp:Fs:={cq:=[(6,[0,1,2,4,5,6,3,7,8])]}
theorem Tryz.Wq:aL Wp Tryz.f140 2=true:=by kernel_rfl
def Tryz.Wr:Fs:={L:=[5]}
theorem Tryz.Ws:aL Wr Tryz.f141 2=true:=by kernel_rfl
def Tryz.Wt:Fs:={L:=[2,3],LL:=[56,58],cq:=[(9,[0,2,4,1,3,5,6,7,8])]}
theorem Tryz.Wu:aL Wt Tryz.f142 2=true:=by kernel_rfl
def Tryz.Wv:Fs:={L:=[5]}
theorem Tryz.Ww:aL Wv Tryz.f143 3=true:=by kernel_rfl
def Tryz.Wx:Fs:={L:=[3,4,5]}
theorem Tryz.Wy:aL Wx Tryz.f144 3=true:=by kernel_rfl
def Tryz.Wz:Fs:={L:=[2,3],LL:=[28,33],cq:=[(6,[0,2,5,7,1,3,6,8,4,9,10])]}
theorem Tryz.WA:aL Wz Tryz.f145 2=true:=by kernel_rfl
def Tryz.WB:Fs:={cq:=[(3,[0,1,2,3,4,7,8,9,10,11,5,6,12,13])]}
theorem Tryz.WC:aL WB Tryz.f146 2=true:=by kernel_rfl
def Tryz.WD:Fs:={L:=[5,6,12,15,16,44,82,118,153,165]}
theorem Tryz.WE:aL WD Tryz.f148 4=true:=by kernel_rfl
def Tryz.WG:Fs:={L:=[1]}
theorem Tryz.WH:aL WG Tryz.f149 1=true:=by kernel_rfl
def Tryz.WI:Fs:={L:=[1,2,3,16]}
theorem Tryz.WJ:aL WI Tryz.f150 1=true:=by kernel_rfl
def Tryz.WK:Fs:={L:=[4,5],LL:=[25,30,45,50],cq:=[(6,[0,1,3,6,8,2,4,7,9,5,10,11,12]),(11,[0,1,3,6,8,2,4,7,9,5,10,11,12])]}
theorem Tryz.WL:aL WK Tryz.f151 3=true:=by kernel_rfl
def Tryz.WM:Fs:={L:=[1,2],LL:=[4,7,11],trees:=[(1,(.one 0 (.one 3 (.one 7 (.one 1 (.one 4 (.one 8 (.alt 2 (.alt 5 (.one 6 M_) (.alt 6 (.one 5 M_) .eO)) (.alt 6 (.one 2 (.one 5 M_)) .eO)))))))))]}
theorem Tryz.WN:aL WM Tryz.f152 1=true:=by kernel_rfl
def Tryz.WO:Fs:={L:=[4,5,7,8,10]}
theorem Tryz.WQ:aL WO Tryz.f153 4=true:=by kernel_rfl
def Tryz.WR:Fs:={L:=[5,6,8,9,12],LL:=[14,20,21,23,28,46,48,52,53,55,56,57],cq:=[(1,[0,2,1,3,4,5,6,9,11,7,8,10,12,13,15,14,16,17,18]),(7,[0,1,3,2,4,5,6,7,10,8,9,11,12,13,14,15,16,17])]}
theorem Tryz.WS:aL WR Tryz.f154 5=true:=by kernel_rfl
def Tryz.WT:Fs:={L:=[1]}
theorem Tryz.WU:aL WT Tryz.f155 1=true:=by kernel_rfl
def Tryz.WV:Fs:={L:=[2,3,20]}
theorem Tryz.WW:aL WV Tryz.f156 2=true:=by kernel_rfl
def Tryz.WX:Fs:={L:=[2]}
theorem Tryz.WY:aL WX Tryz.f157 1=true:=by kernel_rfl
def Tryz.WZ:Fs:={L:=[3,9],LL:=[14],cq:=[(1,[0,1,2,4,3,5,6]),(12,[0,1,2,3,5,6,7,8,13,4,9,10,11,12,14,15,16,17])]}
theorem Tryz.W0:aL WZ Tryz.f158 2=true:=by kernel_rfl
def Tryz.W1:Fs:={L:=[3,30],LL:=[29],trees:=[(3,(.one 0 (.one 1 (.one 2 (.one 3 (.one 5 (.one 6 (.one 7 (.one 8 (.one 13 (.one 14 (.alt 4 (.one 9 (.one 10 (.one 11 (.one 12 F_)))) (.alt 9 (.one 10 (.one 11 (.one 12 (.alt 4 F_ (.alt 15 (.one 4 J_) .eO))))) .eO)))))))))))))]}
theorem Tryz.W2:aL W1 Tryz.f159 2=true:=by kernel_rfl
def Tryz.KD:Fs:={L:=[4],LL:=[22,45],cq:=[(5,[0,1,2,4,5,3,6]),(11,[0,1,2,4,5,6,8,9,10,3,7,11,12])],trees:=[(6,(.one 0 (.one 1 (.one 2 (.one 3 (.one 5 (.one 6 (.one 7 (.one 12 (.one 13 (.one 14 (.one 20 (.one 23 (.one 21 (.alt 4 (.alt 8 (.one 9 (.one 10 (.alt 11 (.one 15 (.one 16 (.one 17 (.one 18 H_)))) (.alt 15 (.one 16 (.one 11 (.one 17 (.one 18 H_)))) .eO)))) (.alt 15 (.one 16 (.one 8 (.one 9 (.one 10 (.one 11 (.one 17 (.one 18 H_))))))) .eO)) (.alt 8 (.one 9 (.one 10 (.alt 4 (.alt 11 (.one 15 (.one 16 (.one 17 (.one 18 H_)))) (.alt 15 (.one 16 (.one 11 (.one 17 (.one 18 H_)))) .eO)) (.alt 11 (.alt 4 (.one 15 (.one 16 (.one 17 (.one 18 H_)))) (.alt 15 (.one 16 (.one 17 (.one 18 (.alt 4 H_ (.alt 19 (.one 4 (.one 22 (.one 24 .nil))) .eO))))) .eO)) (.alt 15 (.one 16 (.alt 4 (.one 11 (.one 17 (.one 18 H_))) (.alt 11 (.one 17 (.one 18 (.alt 4 H_ (.alt 19 (.one 4 (.one 22 (.one 24 .nil))) .eO)))) .eO))) .eO))))) (.alt 15 (.one 16 (.alt 4 (.one 8 (.one 9 (.one 10 (.one 11 (.one 17 (.one 18 H_)))))) (.alt 8 (.one 9 (.one 10 (.alt 4 (.one 11 (.one 17 (.one 18 H_))) (.alt 11 (.one 17 (.one 18 (.alt 4 H_ (.alt 19 (.one 4 (.one 22 (.one 24 .nil))) .eO)))) .eO)))) .eO))) .eO)))))))))))))))))],M:=[61,188]}
theorem Tryz.HB:aL KD Tryz.f160 3=true:=by kernel_rfl
def Tryz.Ck:Fs:={L:=[4,7],LL:=[14,21,36,39,71,87,105,111,122,128,139,154,157],cq:=[(3,[0,1,3,4,5,6,8,2,9,7,10,11]),(14,[0,1,2,4,6,7,8,11,12,5,3,9,13,10,14,15]),(16,[0,1,2,3,5,11,6,12,4,7,8,9,10,13,14,15]),(18,[0,1,2,4,10,12,13,5,11,3,14,6,7,8,9,15,16]),(21,[0,1,2,3,4,5,6,7,9,10,11,18,16,19,20,8,12,13,14,15,17,21,22,23])],trees:=[(7,(.one 0 (.one 1 (.one 4 (.one 8 (.one 9 (.one 10 (.one 2 (.one 5 (.alt 3 (.alt 6 (.alt 7 (.one 11 (.one 12 (.one 13 .nil))) (.alt 11 L_ .eO)) (.alt 11 (.one 6 L_) .eO)) (.alt 11 (.one 3 (.one 6 L_)) .eO))))))))))),(12,(.one 0 (.one 1 (.one 2 (.one 3 (.one 5 (.one 7 (.one 8 (.one 9 (.one 6 (.alt 4 (.one 10 G_) (.alt 10 (.one 4 G_) .eO))))))))))))],M:=[159,191]}
theorem Tryz.xz:aL Ck Tryz.f161 3=true:=by kernel_rfl
def Tryz.W3:Fs:={L:=[3]}
theorem Tryz.W4:aL W3 Tryz.f162 3=true:=by kernel_rfl
def Tryz.RW:Fs:={L:=[2,5]}
theorem Tryz.Qm:aL RW Tryz.f163 1=true:=by kernel_rfl
def Tryz.W5:Fs:={L:=[3,22],LL:=[21],cq:=[(4,[0,1,2,3,5,6,4,7,8,9,10])]}
theorem Tryz.W6:aL W5 Tryz.f164 2=true:=by kernel_rfl
def Tryz.Ov:Fs:={cq:=[(8,[0,1,2,3,4,5,7,6,8,9,10,11,12,13,14,15,16,17,18,19,20,21,22,23,25,26,27,29,24,28,30,31,32,33,34])]}
theorem Tryz.KE:aL Ov Tryz.f165 3=true:=by kernel_rfl
def Tryz.W7:Fs:={L:=[3]}
theorem Tryz.W8:aL W7 Tryz.f166 1=true:=by kernel_rfl
def Tryz.W9:Fs:={}
theorem Tryz.Xa:aL W9 Tryz.f167 2=true:=by kernel_rfl
def Tryz.Xb:Fs:={L:=[5,29],LL:=[23],cq:=[(5,[0,2,3,4,1,5,6,7,8,9,10])]}
theorem Tryz.Xc:aL Xb Tryz.f168 2=true:=by kernel_rfl
def Tryz.Xd:Fs:={L:=[5,31]}
theorem Tryz.Xe:aL Xd Tryz.f169 2=true:=by kernel_rfl
def Tryz.Xf:Fs:={}
theorem Tryz.Xg:aL Xf Tryz.f170 1=true:=by kernel_rfl
def Tryz.RX:Fs:={L:=[6],LL:=[49],cq:=[(9,[0,1,2,4,5,3,6,7])]}
theorem Tryz.Qn:aL RX Tryz.f171 3=true:=by kernel_rfl
def Tryz.RY:Fs:={L:=[8],LL:=[36],cq:=[(6,[0,1,2,4,5,3,6,7])]}
theorem Tryz.Qo:aL RY Tryz.f172 4=true:=by kernel_rfl
def Tryz.Xh:Fs:={cq:=[(2,[0,1,2,3,4,5,6,8,9,10,11,13,16,17,7,12,14,15,18,19,20])]}
theorem Tryz.Xi:aL Xh Tryz.f173 2=true:=by kernel_rfl
def Tryz.Xj:Fs:={}
theorem Tryz.Xk:aL Xj Tryz.f174 2=true:=by kernel_rfl
def Tryz.Xl:Fs:={}
theorem Tryz.Xm:aL Xl Tryz.f175 2=true:=by kernel_rfl
def Tryz.Xn:Fs:={}
theorem Tryz.Xo:aL Xn Tryz.f176 2=true:=by kernel_rfl
def Tryz.Xp:Fs:={L:=[4,5,6,7,8]}
theorem Tryz.Xq:aL Xp Tryz.f177 4=true:=by kernel_rfl
def Tryz.Xr:Fs:={L:=[1,12]}
theorem Tryz.Xs:aL Xr Tryz.f178 1=true:=by kernel_rfl
def Tryz.Xt:Fs:={L:=[4,6],LL:=[27],cq:=[(7,[0,1,3,4,5,8,9,10,2,6,7,11,12,13])]}
theorem Tryz.Xu:aL Xt Tryz.f179 3=true:=by kernel_rfl
def Tryz.Ow:Fs:={L:=[3,4,5,6,27],LL:=[34,35,38,47,49],cq:=[(8,[0,3,4,6,1,2,5,7,8,9,10,11,12,13,14,15,16]),(9,[1,3,7,0,2,4,5,6,8,9,10,11,12])]}
theorem Tryz.KF:aL Ow Tryz.f180 3=true:=by kernel_rfl
def Tryz.Xv:Fs:={L:=[4,5,6,11,13,15,17],LL:=[112,115,118,128,132,135],cq:=[(21,[1,2,5,9,0,3,6,4,7,8,10,11,12,13,14]),(23,[0,2,3,4,7,1,5,8,6,9,10,11,12,13,14,15,16])]}
theorem Tryz.Xw:aL Xv Tryz.f181 3=true:=by kernel_rfl
def Tryz.Xx:Fs:={L:=[4,5,6,9],LL:=[30,32,34,46,48,50,76,78],cq:=[(8,[1,3,0,2,4,5,6,7,8,9,10,11]),(12,[0,2,4,6,7,1,3,5,8,9,10,11]),(20,[1,3,4,0,2,5,6,7,8,9,10,11])]}
theorem Tryz.Xy:aL Xx Tryz.f182 3=true:=by kernel_rfl
def Tryz.Xz:Fs:={L:=[4,5,7],LL:=[10,17,18,20],cq:=[(1,[0,2,1,3,4,5,6,7,10,12,8,9,11,13,14,15,16,17])]}
theorem Tryz.XA:aL Xz Tryz.f183 4=true:=by kernel_rfl
def Tryz.XB:Fs:={L:=[2,3,4],LL:=[7,10],trees:=[(1,(.one 1 (.one 4 (.one 2 (.one 5 (.one 6 (.alt 0 (.alt 3 (.one 7 (.one 8 (.one 9 .nil))) (.alt 7 N_ .eO)) (.alt 7 (.one 0 N_) .eO))))))))]}
theorem Tryz.XC:aL XB Tryz.f184 2=true:=by kernel_rfl
def Tryz.XD:Fs:={L:=[2]}
theorem Tryz.XF:aL XD Tryz.f186 2=true:=by kernel_rfl
def Tryz.XG:Fs:={L:=[2,3]}
theorem Tryz.XH:aL XG Tryz.f187 2=true:=by kernel_rfl
def Tryz.XI:Fs:={L:=[45],trees:=[(4,(.one 0 (.one 1 (.one 2 (.one 4 (.one 5 (.one 6 (.one 11 (.one 12 (.one 13 (.one 14 (.alt 3 (.one 7 (.one 8 (.one 9 (.one 10 F_)))) (.alt 7 (.one 8 (.one 9 (.one 10 (.alt 3 F_ (.alt 15 (.one 3 J_) .eO))))) .eO)))))))))))))]}
theorem Tryz.XJ:aL XI Tryz.f188 3=true:=by kernel_rfl
def Tryz.XK:Fs:={L:=[4]}
theorem Tryz.XL:aL XK Tryz.f189 3=true:=by kernel_rfl
def Tryz.XN:Fs:={L:=[3],LL:=[47],cq:=[(1,[0,1,2,4,5,6,11,12,13,3,7,8,9,10,14,15,16,17,18,19,20,21,22,23]),(4,[0,1,2,4,3,5,6,7]),(5,[0,1,2,4,5,6,3,7,8,9])]}
theorem Tryz.XO:aL XN Tryz.f190 2=true:=by kernel_rfl
def Tryz.XP:Fs:={L:=[18,35],trees:=[(6,(.one 0 (.one 1 (.one 2 (.one 4 (.one 5 (.one 6 (.one 11 (.one 12 (.one 13 (.one 14 (.alt 3 (.one 7 (.one 8 (.one 9 (.one 10 F_)))) (.alt 7 (.one 8 (.one 9 (.one 10 (.alt 3 F_ (.alt 15 (.one 3 J_) .eO))))) .eO)))))))))))))]}
theorem Tryz.XQ:aL XP Tryz.f191 3=true:=by kernel_rfl
def Tryz.XT:Fs:={}
theorem Tryz.XU:aL XT Tryz.f192 1=true:=by kernel_rfl
def Tryz.XV:Fs:={cq:=[(9,[0,1,2,3,4,5,6,7,8,9])]}
theorem Tryz.XW:aL XV Tryz.f193 2=true:=by kernel_rfl
def Tryz.XX:Fs:={}
theorem Tryz.XY:aL XX Tryz.f194 1=true:=by kernel_rfl
def Tryz.RZ:Fs:={L:=[4],LL:=[8,20,43],cq:=[(1,[0,1,2,3,4,5,6,7,12,13,14,8,9,10,11,15,16,17,18,19,20]),(5,[0,1,2,7,8,9,3,4,5,6,10,11])]}
theorem Tryz.Qp:aL RZ Tryz.f195 3=true:=by kernel_rfl
def Tryz.XZ:Fs:={}
theorem Tryz.X0:aL XZ Tryz.f196 1=true:=by kernel_rfl
def Tryz.X1:Fs:={L:=[5]}
theorem Tryz.X2:aL X1 Tryz.f197 4=true:=by kernel_rfl
def Tryz.X3:Fs:={}
theorem Tryz.X4:aL X3 Tryz.f198 3=true:=by kernel_rfl
def Tryz.X5:Fs:={L:=[3]}
theorem Tryz.X6:aL X5 Tryz.f199 2=true:=by kernel_rfl
def Tryz.X7:Fs:={}
theorem Tryz.X8:aL X7 Tryz.f200 3=true:=by kernel_rfl
def Tryz.X9:Fs:={L:=[2]}
theorem Tryz.Ya:aL X9 Tryz.f201 1=true:=by kernel_rfl
def Tryz.R0:Fs:={L:=[3,22],LL:=[21],cq:=[(2,[0,1,2,3,4,6,7,5,8,9,10,11,12])]}
theorem Tryz.Qq:aL R0 Tryz.f202 2=true:=by kernel_rfl
def Tryz.R1:Fs:={L:=[3,6,26]}
theorem Tryz.Qr:aL R1 Tryz.f203 3=true:=by kernel_rfl
def Tryz.Yb:Fs:={}
theorem Tryz.Yc:aL Yb Tryz.f204 1=true:=by kernel_rfl
def Tryz.Yd:Fs:={L:=[4,7,9],LL:=[22,27,30,34,35],cq:=[(4,[0,2,3,4,8,1,6,5,7,9]),(5,[0,1,2,3,4,7,8,9,5,6,10,11,12])]}
theorem Tryz.Ye:aL Yd Tryz.f205 4=true:=by kernel_rfl
def Tryz.Yf:Fs:={L:=[2,3]}
theorem Tryz.Yg:aL Yf Tryz.f206 2=true:=by kernel_rfl
def Tryz.Yh:Fs:={cq:=[(1,[5,0,1,2,3,4,6,7,8])]}
theorem Tryz.Yi:aL Yh Tryz.f207 3=true:=by kernel_rfl
def Tryz.Yj:Fs:={L:=[2]}
theorem Tryz.Yk:aL Yj Tryz.f208 1=true:=by kernel_rfl
def Tryz.Yl:Fs:={}
theorem Tryz.Ym:aL Yl Tryz.f209 2=true:=by kernel_rfl
def Tryz.Yn:Fs:={}
theorem Tryz.Yo:aL Yn Tryz.f210 2=true:=by kernel_rfl
def Tryz.Yp:Fs:={L:=[7,8,9,10]}
theorem Tryz.Yq:aL Yp Tryz.f211 3=true:=by kernel_rfl
def Tryz.Yr:Fs:={}
theorem Tryz.Ys:aL Yr Tryz.f212 1=true:=by kernel_rfl
def Tryz.Yt:Fs:={}
theorem Tryz.Yu:aL Yt Tryz.f213 1=true:=by kernel_rfl
def Tryz.Yv:Fs:={L:=[4,5,6,7],LL:=[28,32,37,51,55,60],cq:=[(7,[0,2,3,4,6,9,11,1,5,7,10,12,8,13,14,15,16]),(11,[0,2,3,4,6,9,11,1,5,7,10,12,8,13,14,15,16])]}
theorem Tryz.Yw:aL Yv Tryz.f214 3=true:=by kernel_rfl
def Tryz.Yx:Fs:={}
theorem Tryz.Yy:aL Yx Tryz.f216 2=true:=by kernel_rfl
def Tryz.Yz:Fs:={}
theorem Tryz.YA:aL Yz Tryz.f217 3=true:=by kernel_rfl
def Tryz.YB:Fs:={}
theorem Tryz.YC:aL YB Tryz.f218 3=true:=by kernel_rfl
end Go.Proofs
