/- A part. -/
import Derived.Test.YtbgkfnjmcjfokaaGreatDoorG27
import Derived.Test.YtbgkfnjmcjfokaaGreatDoorG28
open Go.Proofs.Tryz
set_option linter.all false
open _root_.Go.Addr renaming add->aN
open _root_.Array renaming toList_push->dE,size_push->dJ,getElem?_eq_getElem->dM
open _root_.Go.Builtin renaming copy_->dN
open Int renaming toNat_natCast->aL,natCast_mul->cF,natAbs_mul->cV,tmod->dD
open List renaming replicate->aC,getD_eq_getElem?_getD->aE,getElem?_eq_getElem->aT,length_cons->aW,length_replicate->aY,length_append->bC,getElem?_toArray->bH,getElem_mem->bI,mem_cons_of_mem->bJ,getElem?_append_left->bO,append_assoc->bY,length_filter_le->bZ,length_nil->cC,length_map->cD,getElem?_append_right->cK,getElem?_replicate->cP,getElem?_cons_zero->cQ,append_nil->cT,range->cX,flatMap_cons->dB,length_take->dH,getElem?_cons_succ->dO,mem_map->dV,drop_of_length_le->dX
open List.cons renaming injEq->aJ
open Nat renaming le_refl->aU,mul_le_mul_right->aV,zero_add->aZ,succ_mul->cI,mul_le_mul->cJ,mul_le_mul_left->cW,le_trans->cZ,add_mul_mod_self_right->dK,sub_zero->dR,sub_self->dT,add_comm->dU
open Option renaming getD_some->dG
open Option.some renaming inj->bU
open Rat renaming intCast_mul->aF,le_of_lt->aH,mul_nonneg->aI,le_refl->aQ,mul_pos->bG,intCast_sub->bK,pow_succ->bL,intCast_add->bM,mul_inv_cancel->bX,pow_zero->cH,div_def->cM,mul_assoc->cN,mul_zero->cY,floor_le->dP
open _root_.Go.Value renaming string->aK
open _root_.Go.Value.bool renaming injEq->dF
open _root_.Go.Value.int renaming injEq->aO
open _root_.Go.Value.slice renaming injEq->bF
open _root_.Go renaming Addr->aX,Value->bN,TypeId->dI
open _root_.Go.Proofs.YtbgkfnjmcjfokaaGreatDoor renaming Heap->aP,FCall->aR,PolyAt->cL,OwnSl->cO,RowV->cU
namespace Go.Proofs.YtbgkfnjmcjfokaaGreatDoor
set_option maxRecDepth 20000
open Go
section
variable {h g o:aP} {K:VP} {c:Nat->Rat} {bb n ca:Nat}
def A3d{es:List EV}{f:Nat->Nat}(s:Sep h g o)(rb:RowB o bb es)(hl:es.length=n)(rr:Row (ENk c) g es n f)(hi:Inj n f)(hn:n<=12)(hk:∀ i,i<n->f i<=1000)
 (hK:∀ h' g' o' es' f',g.le g'->Sep h' g' o'->RowB o' bb es'->es'.length=n->Row (ENk c) g' es' n f'->B9c f' n->Same n f' f->(∀ k x,k≠bb->o k=some x->o' k=some x)->K (.tuple #[]) h'):
 aR prog 137 #[.slice (some ⟨bb,0,none⟩) n ca,.func (.func 138) #[] #[]] h K:=by
 refine (fnk func137 (wr:=[205])) ?_
 rw [C3 oo oo]
 refine A41 oo ⟨_,rfl,?_⟩
 refine (fnk func205 [(2,[1,2,3,10,11],[],[I 0,I 0,I 0,.bool false,.bool false])] (rs:=[(2000005,[])]) (wr:=[264])) ?_
 refine ⟨fun L j=>∃ z:Int,L=[I 0,I (n:Int),I z,.bool true,.bool true]/\j=h,fun _ _=>0,⟨_,rfl,rfl⟩,?_⟩
 rintro r q u p w j ⟨z,l,rfl⟩
 simp only [aJ,aO,dF,true_and,and_true] at l
 obtain ⟨rfl,rfl,rfl,rfl,rfl⟩:=l
 refine B4 (fun _=>?_) (fun m=>?_)
 ·refine A64 s rb hl rr hi hn hk ?_
  intro h' g' o' es' f' a b c d e f' g' i
  exact ⟨rfl,rfl,hK h' _ o' es' _ a b c d e f' g' i⟩
 ·rw [B5 oo oo] at m
  omega
def A0r{A:Option aX}(hK:K (.tuple #[]) h):aR prog 137 #[.slice A 0 ca,.func (.func 138) #[] #[]] h K:=by
 refine (fnk func137 (wr:=[205])) ?_
 rw [C3 oo oo]
 refine A41 (n:=0) oo ⟨_,rfl,?_⟩
 refine (fnk func205 [(2,[1,2,3,10,11],[],[I 0,I 0,I 0,.bool false,.bool false])] (rs:=[(2000005,[])]) (wr:=[264])) ?_
 refine ⟨fun L b=>∃ z:Int,L=[I 0,I 0,I z,.bool true,.bool true]/\b=h,fun _ _=>0,⟨_,rfl,rfl⟩,?_⟩
 rintro k j l g m b ⟨z,a,rfl⟩
 simp only [aJ,aO,dF,true_and,and_true] at a
 obtain ⟨rfl,rfl,rfl,rfl,rfl⟩:=a
 refine B4 (fun _=>?_) (fun e=>?_)
 ·refine (fnk func264 [(1,[8],[],[I 0]),(4,[9],[],[I 0])]) ?_
  refine ⟨fun L c=>L=[I 1]/\c=b,fun _ _=>0,⟨rfl,rfl⟩,?_⟩
  rintro i c ⟨a,rfl⟩
  obtain rfl:i=1:=by simpa using a
  refine B4 (fun d=>oo) (fun _=>⟨rfl,rfl,hK⟩)
 ·rw [B5 oo oo] at e
  omega
def C5p:KeyT prog 124 3 6 .i64:=⟨by kernel_rfl,by kernel_rfl,by kernel_rfl⟩
def C3c:prog.underlying 212=some (.map 124 83):=by kernel_rfl
def C64:Uw prog 83=true:=by kernel_rfl
def C4u:Cl prog 83=Qg.v:=by kernel_rfl
def B86(k:Nat):Array bN:=#[I (k:Int),I 0,I 0,I 0,I 0,I 0]
def C5o(k:Nat):KeyV 6 .i64 (B86 k):=by
 refine ⟨rfl,fun i a=>?_⟩
 match i,a with
 | 0,_=>exact ⟨_,rfl⟩
 | 1,_=>exact ⟨_,rfl⟩
 | 2,_=>exact ⟨_,rfl⟩
 | 3,_=>exact ⟨_,rfl⟩
 | 4,_=>exact ⟨_,rfl⟩
 | 5,_=>exact ⟨_,rfl⟩
def MapE(g:aP)(c:Nat->Rat)(f:Nat->Nat)(es:Array MapEntry)(t:Nat):Prop:=es.size=t/\∀ i,i<t->∃ w:QV,es[i]? = some ⟨.agg (B86 (f i)),w.v,i⟩/\RQ g w (c (f i))
def MapE.mono{g g':aP}{f:Nat->Nat}{es:Array MapEntry}{t:Nat}(m:MapE g c f es t)(l:g.le g'):MapE g' c f es t:=⟨m.1,fun i a=>by
 obtain ⟨w,e,q⟩:=m.2 i a
 exact ⟨w,e,⟨q.num.mono l,q.den.mono l⟩⟩⟩
def MapE.mem{f:Nat->Nat}{es:Array MapEntry}{t:Nat}(m:MapE g c f es t){e:MapEntry}(he:e∈es):∃ i,i<t/\es[i]? = some e:=by
 obtain ⟨i,a,b⟩:=Array.mem_iff_getElem.1 he
 exact ⟨i,by rw [<- m.1];exact a,by rw [dM a,b]⟩
def MapE.at{f:Nat->Nat}{es:Array MapEntry}{t:Nat}(m:MapE g c f es t){e:MapEntry}(he:e∈es):∃ i,i<t/\e.born=i/\e.key= .agg (B86 (f i))/\∃ w:QV,e.val=w.v/\RQ g w (c (f i)):=by
 obtain ⟨i,b,d⟩:=m.mem he
 obtain ⟨w,a,q⟩:=m.2 i b
 rw [d] at a
 have:=bU a
 subst this
 exact ⟨i,b,rfl,rfl,w,rfl,q⟩
def B0h{P:Program}{it r since last clock:Nat}{seen:Array Nat}{stamp:Nat}{es:Array MapEntry}{e:MapEntry}(hi:h it=some (.mapIter (some r) since seen last))(hs:seen.back? = some stamp)(hr:h r=some (.map es clock))(hc:clock=last)(hf:es.find? (·.born==stamp)=some e)(hK:K (.tuple #[e.key,e.val]) h):wpH P (Instr.entry (.pointer (some ⟨it,0,none⟩))) K h:=by
 unfold Instr.entry
 refine Gk hi rfl ?_
 simp only [hs]
 refine Gk hr rfl ?_
 simp only [hc,bne_self_eq_false,Bool.false_eq_true,if_false,hf]
 exact hK
end
def A3j{f:Nat->Nat}: ∀ {l:List Nat},l.Nodup->(∀ x,x∈l->∀ y,y∈l->f x=f y->x=y)->(l.map f).Nodup:=by
 intro l
 induction l with
 | nil=>intro _ _;exact List.nodup_nil
 | cons a l ih=>
  intro h d
  obtain ⟨k,i⟩:=List.nodup_cons.1 h
  rw [List.map_cons]
  refine List.nodup_cons.2 ⟨fun g=>?_,ih i fun x m y j=>d x (bJ _ m) y (bJ _ j)⟩
  obtain ⟨b,c,e⟩:=List.mem_map.1 g
  have:=d b (bJ _ c) a (by simp) e
  subst this
  exact k c
def B4z{X Y:Prop}(y:Y):Br (!true) X Y:=y
def Pk{X Y:Prop}(x:X):Br (!false) X Y:=x
section
variable {h g o:aP} {K:VP} {c:Nat->Rat} {bb n ca:Nat} {A:Option aX}
def V8(c:Nat->Rat)(f:Nat->Nat)(s:List Nat):List Nat:=(s.filter fun i=>decide (c (f i)≠0)).map f
def A2r{c:Nat->Rat}{f:Nat->Nat}{s:List Nat}{i:Nat}:V8 c f (s++[i])=V8 c f s++(if c (f i)=0 then [] else [f i]):=by
 unfold V8
 rw [List.filter_append,List.map_append]
 congr 1
 by_cases h:c (f i)=0<;>simp [h]
def MapE.push{f:Nat->Nat}{es:Array MapEntry}{t:Nat}(m:MapE g c f es t){w:QV}(q:RQ g w (c (f t))):MapE g c f (es.push ⟨.agg (B86 (f t)),w.v,t⟩) (t+1):=by
 refine ⟨by rw [dJ,m.1],fun i d=>?_⟩
 by_cases e:i=t
 ·subst e
  exact ⟨w,by rw [<- m.1,Array.getElem?_push_size],q⟩
 ·obtain ⟨u,b,a⟩:=m.2 i oo
  exact ⟨u,by rw [Array.getElem?_push_lt (by rw [m.1];omega),<- dM];exact b,a⟩
def MapE.find{f:Nat->Nat}{es:Array MapEntry}{t:Nat}(m:MapE g c f es t){e:MapEntry}(he:e∈es):es.find? (·.born==e.born)=some e:=by
 obtain ⟨i,s,a⟩:=m.mem he
 have uniq:∀ x∈es,x.born=e.born->x=e:=fun x u B=>by
  obtain ⟨j,l,b⟩:=m.mem u
  obtain ⟨w,k,_⟩:=m.2 i s
  obtain ⟨A,q,_⟩:=m.2 j l
  have p:=a.symm.trans k
  have d:=b.symm.trans q
  have y:e.born=i:=by rw [bU p]
  have z:x.born=j:=by rw [bU d]
  have:i=j:=oo
  subst this
  exact bU (b.symm.trans a)
 cases hf:es.find? (·.born==e.born) with
 | none=>
  have:=Array.find?_eq_none.1 hf e he
  simp at this
 | some x=>
  have r:=Array.find?_some hf
  have n:=Array.mem_of_find?_eq_some hf
  rw [uniq x n (by simpa using r)]
def Ul{f:Nat->Nat}{a:aX}{B:Option aX}{bc lc m:Nat}(gl:Gtz h)(hc:h.cell? (aN a (0*1))=some (.slice B n bc))(er:cU (ENk c) h B n f)(inj:Inj n f)(hn:n<=12)(hs:∀ i,i<n->Sz m (c (f i)))(hm1:1<=m)(hm:m<=400000000)
 (hK:∀ A' c' h' g' o' es (l:List Nat),h.le g'->Sep h' g' o'->cO o' 126 A' c' es->es.length=l.length->Row (ENk c) g' es l.length (fun i=>l.getD i 0)->l.Nodup->(∀ v,v∈l↔(∃ i,i<n/\f i=v)/\c v≠0)->K (.slice A' l.length c') h'):
 aR prog 63 #[.slice (some a) 1 lc] h K:=by
 refine A27 _ _ _ ?_
 refine B3q fun C ax=>⟨_,rfl,?_⟩
 have s0:Sep (h.put C (.map #[] 0)) h (J8.put C (.map #[] 0)):=F1 ax
 refine ⟨fun L hp=>∃ (k:Nat) (g o:aP) (es:Array MapEntry),k<=1/\L=[I (k:Int)]/\h.le g/\Sep hp g o/\o C=some (.map es es.size)/\MapE g c f es (if k=0 then 0 else n),fun L _=>1-(iAt L 0).toNat,⟨0,h,_,#[],oo,rfl,B0 _,s0,B8 _ _ _,⟨rfl,fun i W=>by simp at W⟩⟩,?_⟩
 rintro kz hp ⟨k,g1,o1,p,hk,eL,ag,s1,H,T⟩
 obtain rfl:=sI1 eL
 refine B4 (fun a2=>?_) (fun a4=>?_)
 ·obtain rfl:k=0:=oo
  refine ⟨a,rfl,oo,oo,_,_,_,B7 (A0 ag s1.le) hc,?_⟩
  rw [iP rfl] at T
  refine ⟨fun L hq=>∃ (t:Nat) (g o:aP) (es:Array MapEntry),t<=n/\L=[I (t:Int)]/\h.le g/\Sep hq g o/\o C=some (.map es es.size)/\MapE g c f es t,fun L _=>n-(iAt L 0).toNat,⟨0,g1,o1,p,oo,rfl,ag,s1,H,T⟩,?_⟩
  rintro tz hq ⟨t,g2,o2,r,ht,ar,A,X,E,u⟩
  obtain rfl:=sI1 ar
  refine B4 (fun V=>?_) (fun az=>?_)
  ·have ad:t<n:=oo
   obtain ⟨a1,ev,rfl,⟨iq,xs⟩,af⟩:=(er.mono (Qm c) A).at dc ad
   have D:ev.x0=(f t:Int)/\ev.x1=0/\ev.x2=0/\ev.x3=0/\ev.x4=0/\ev.x5=0:=by
    simp only [EV.xs,aJ,and_true] at xs
    exact xs
   obtain ⟨x0,x1,x2,x3,x4,x5,w⟩:=ev
   obtain ⟨rfl,rfl,rfl,rfl,rfl,rfl⟩:=D
   have cl:∀ j v,(enc (⟨(f t:Int),0,0,0,0,0,w⟩:EV))[j]? = some v->hq.cell? (aN (aN a1 (t*10)) j)=some v:=fun j v hv=>B7 X.le (af j v hv)
   refine ⟨a1,rfl,oo,oo,_,_,_,_,_,_,_,_,_,_,_,_,_,_,cl 0 _ rfl,cl 1 _ rfl,cl 2 _ rfl,cl 3 _ rfl,cl 4 _ rfl,cl 5 _ rfl,cl 6 _ rfl,cl 7 _ rfl,cl 8 _ rfl,cl 9 _ rfl,?_⟩
   have Q:∀ e∈r,∃ ys b,e.key= .agg ys/\ys[0]? = some (.int .i64 b)/\(f t:Int)≠b:=fun e he=>by
    obtain ⟨i,W,_,e2,_⟩:=u.at he
    refine ⟨_,_,e2,rfl,fun z=>?_⟩
    have:=inj t i ad oo oo
    omega
   refine A6d C5p C3c C64 (X.own _ _ E) oo (cs:=B86 (f t)) (C5o _) rfl Q ?_
   rw [C4u]
   refine ⟨_,_,_,_,_,_,_,_,rfl,B0 _,?_⟩
   have rz:RQ g2 Qg 0:=⟨ZI.zero,ZI.zero⟩
   refine X.call (Du (gl.mono A) rz iq (Sz.zero hm1) (hs t ad) oo ?_)
   intro w3 g3 l3 i3 h3 s3
   rw [Rat.zero_add] at i3
   refine ⟨_,_,_,_,_,_,_,_,rfl,X.grow s3 l3,?_⟩
   refine A5m C5p C3c (s3.own _ _ E) oo (cs:=B86 (f t)) (C5o _) rfl Q ?_
   have s4:=s3.upd E (.map (r.push ⟨.agg (B86 (f t)),w3.v,r.size⟩) (r.size+1))
   rw [wiS t oo]
   have an:=(u.mono l3).push i3
   rw [<- u.1] at an
   refine ⟨⟨t+1,g3,_,_,oo,rfl,A0 A l3,s4,by rw [B8,dJ],by rw [<- u.1];exact an⟩,by simp only [Ca];omega⟩
  ·have:t=n:=oo
   subst this
   exact ⟨⟨1,g2,o2,r,oo,by rw [B5 oo oo];rfl,A,X,E,by rw [iN oo];exact u⟩,by show 1-(B9 (((0:Nat):Int)+1)).toNat<1-((0:Nat):Int).toNat;rw [B5 oo oo];omega⟩
 ·have av:k=1:=oo
  subst av
  rw [iN oo] at T
  refine B85 C3c (s1.own _ _ H) ⟨_,rfl,?_⟩
  rw [T.1]
  refine D8 X7 (zx:=Ko) rfl oo oo oo oo ?_
  intro bt ae
  refine ⟨_,_,_,rfl,?_⟩
  rw [aL]
  have X:=s1.new ae (.cells ((aC n Ko).flatMap enc).toArray 126)
  have al:C≠bt:=by
   rintro rfl
   rw [s1.own _ _ H] at ae;cases ae
  have E:(o1.put bt (.cells ((aC n Ko).flatMap enc).toArray 126)) C=some (.map p p.size):=by rw [B6 _ _ al];exact H
  refine A8l C3c (X.own _ _ E) fun M N=>⟨_,rfl,?_⟩
  have s3:=X.new N (.mapIter (some C) p.size #[] p.size)
  have aq:C≠M:=by
   rintro rfl
   rw [X.own _ _ E] at N;cases N
  have ak:bt≠M:=by
   rintro rfl
   rw [X.own _ _ (B8 _ _ _)] at N;cases N
  refine ⟨fun L hq=>∃ (g o:aP) (d:Array Nat) (es:List EV) (Ac:Option aX) (cc:Nat),L=[.slice Ac (V8 c f d.toList).length cc]/\g1.le g/\Sep hq g o/\o C=some (.map p p.size)/\o M=some (.mapIter (some C) p.size d p.size)/\cO o 126 Ac cc es/\Ac≠some ⟨C,0,none⟩/\Ac≠some ⟨M,0,none⟩/\es.length=(V8 c f d.toList).length/\Row (ENk c) g es (V8 c f d.toList).length (fun i=>(V8 c f d.toList).getD i 0)/\d.toList.Nodup/\∀ x∈d.toList,x<n,fun _ hq=>match hq M with|some (.mapIter _ _ d _)=>n-d.size|_=>0,
   ⟨g1,_,#[],[],_,n,rfl,B0 _,s3,by rw [B6 _ _ aq];exact E,B8 _ _ _,?_,?_,?_,rfl,Row.nil,List.nodup_nil,fun x D=>by simp at D⟩,?_⟩
  ·exact (Tv:cO (o1.put bt _) 126 (some ⟨bt,0,none⟩) n ([]:List EV)).keep fun b x e S=>by
    simp only [Option.some.injEq,Addr.mk.injEq,and_true] at e
    subst e
    rw [B6 _ _ ak];exact S
  ·simp;exact fun z=>al z.symm
  ·simp;exact ak
  rintro Ac nc cc hq ⟨g2,o2,d,r,Ac',a3,eL,A,s4,om,oi,ow,ao,ah,s,row,nd,F⟩
  simp only [aJ,bF,and_true] at eL
  obtain ⟨rfl,rfl,rfl⟩:=eL
  have u:=T.mono A
  refine B3k (s4.own _ _ oi) (s4.own _ _ om) (fun e he=>by
   obtain ⟨i,W,S,_⟩:=u.at he
   have:=u.1
   omega) (fun am=>.inl ⟨rfl,?_⟩) (fun e he ay=>.inr ⟨_,_,rfl,?_⟩)
  ·refine hK _ _ _ g2 o2 r (V8 c f d.toList) (A0 ag A) s4 ow s row ?_ fun v=>?_
   ·unfold V8
    refine A3j (nd.filter _) ?_
    intro x D y hy e
    exact inj x y (F x (List.mem_filter.1 D).1) (F y (List.mem_filter.1 hy).1) e
   ·unfold V8
    rw [dV]
    constructor
    ·rintro ⟨i,W,rfl⟩
     obtain ⟨h1,h2⟩:=List.mem_filter.1 W
     exact ⟨⟨i,F i h1,rfl⟩,by simpa using h2⟩
    ·rintro ⟨⟨i,W,rfl⟩,hv⟩
     refine ⟨i,List.mem_filter.2 ⟨?_,by simpa using hv⟩,rfl⟩
     obtain ⟨w,S,_⟩:=u.2 i W
     have:=am _ (Array.mem_of_getElem? S)
     simpa using this
  ·obtain ⟨i,W,S,e2,w,e3,q⟩:=u.at he
   have aa:(o2.put M (.mapIter (some C) p.size (d.push e.born) p.size)) M=some (.mapIter (some C) p.size (d.push e.born) p.size):=B8 _ _ _
   have ac:(o2.put M (.mapIter (some C) p.size (d.push e.born) p.size)) C=some (.map p p.size):=by rw [B6 _ _ aq];exact om
   have s5:=s4.upd oi (.mapIter (some C) p.size (d.push e.born) p.size)
   refine B0h (s5.own _ _ aa) (by simp) (s5.own _ _ ac) rfl (u.find he) ?_
   rw [e2,e3]
   refine ⟨_,_,_,_,_,_,_,_,_,_,_,_,_,_,rfl,?_⟩
   have aj:cO (o2.put M (.mapIter (some C) p.size (d.push e.born) p.size)) 126 Ac cc r:=ow.keep fun b x e S=>by
    rw [B6 _ _ (by rintro rfl;exact ah e)];exact S
   have ab:i∉d.toList:=by rw [<- S];simpa using ay
   have ap:(d.push e.born).toList.Nodup:=by
    rw [dE,S]
    exact List.nodup_append.2 ⟨nd,by simp,fun x D y hy=>by rw [List.mem_singleton.1 hy];rintro rfl;exact ab D⟩
   have V:∀ x∈(d.push e.born).toList,x<n:=by
    rw [dE,S]
    intro x D
    rcases List.mem_append.1 D with D|D
    ·exact F x D
    ·rw [List.mem_singleton.1 D];exact W
   have a0:d.size<n:=by
    have h1:(i::d.toList).Nodup:=List.nodup_cons.2 ⟨ab,nd⟩
    have h2:(i::d.toList) ⊆ cX n:=fun x D=>by
     rcases List.mem_cons.1 D with rfl|D
     ·exact List.mem_range.2 W
     ·exact List.mem_range.2 (F x D)
    have:=h1.length_le_of_subset h2
    simp at this
    omega
   have G:V8 c f (d.push e.born).toList=V8 c f d.toList++(if c (f i)=0 then [] else [f i]):=by rw [dE,S,A2r]
   have dec:∀ ai:aP,ai M=some (.mapIter (some C) p.size (d.push e.born) p.size)->(match ai M with|some (.mapIter _ _ d _)=>n-d.size|_=>0)<(match hq M with|some (.mapIter _ _ d _)=>n-d.size|_=>0):=fun ai e9=>by
    rw [e9,s4.own _ _ oi]
    show n-(d.push e.born).size<n-d.size
    rw [dJ];omega
   refine s5.call (V9 q ?_)
   intro h6 s6
   refine ⟨_,rfl,?_⟩
   by_cases h0:c (f i)=0
   ·rw [decide_eq_true h0]
    rw [iP h0,cT] at G
    refine B4z ⟨⟨g2,_,d.push e.born,r,Ac,cc,by rw [G],A,s6,ac,aa,aj,ao,ah,by rw [G];exact s,by rw [G];exact row,ap,V⟩,dec _ (s6.own _ _ aa)⟩
   ·rw [decide_eq_false h0]
    rw [iN h0] at G
    refine Pk ?_
    refine Q5 (ty:=121) X7 s6 aj s.symm (y:=(⟨(f i:Int),0,0,0,0,0,w⟩:EV)) rfl dc ?_ ?_ ?_
    ·have:(V8 c f d.toList).length<=12:=by
      have h1:(V8 c f d.toList).length<=d.toList.length:=by
       unfold V8;rw [cD];exact bZ _ _
      have:d.toList.length=d.size:=by simp
      omega
     rw [s];omega
    ·have h1:(V8 c f d.toList).length<=d.toList.length:=by
      unfold V8;rw [cD];exact bZ _ _
     have:d.toList.length=d.size:=by simp
     rw [s];omega
    intro A7 c7 h7 g7 o7 l7 s7 au R
    have kb:=R _ _ ac ao
    have ki:=R _ _ aa ah
    have O:(V8 c f (d.push e.born).toList).length=r.length+1:=by rw [G,bC,s];rfl
    refine ⟨⟨g7,o7,d.push e.born,r++[⟨(f i:Int),0,0,0,0,0,w⟩],A7,c7,by rw [O],A0 A l7,s7,kb.1,ki.1,au,kb.2,ki.2,by rw [O];simp,?_,ap,V⟩,dec _ (s7.own _ _ ki.1)⟩
    rw [O]
    have r7:=(row.mono (Qm c) l7)
    rw [<- s] at r7
    have r8:Row (ENk c) g7 r r.length (fun j=>(V8 c f (d.push e.born).toList).getD j 0):=r7.congr fun j hj=>by
     rw [G,aE,aE,bO oo]
    have r9:=r8.push (w:=(⟨(f i:Int),0,0,0,0,0,w⟩:EV)) (by
     show ENk c g7 _ ((V8 c f (d.push e.born).toList).getD r.length 0)
     rw [G,s,aE,cK (aU _)]
     simp only [dT,cQ,dG]
     exact ⟨⟨q.num.mono l7,q.den.mono l7⟩,rfl⟩)
    rw [bC,List.length_singleton] at r9
    exact r9
end
section
variable {h:aP} {K:VP} {A:Option aX} {n cap m w:Nat} {r c:Int} {ls:Nat->List UInt8} {M:Nat->Nat->Rat}
end
section
variable {α:Type} [E:Enc α]
def OwnSl.app{P:Program}{t e ty:dI}{z:bN}{bytes:Nat}(st:SliceT P t e z E.default.size bytes){h g o:aP}{A:Option aX}{c:Nat}{xs:List α}(s:Sep h g o)(w:cO o e A c xs){B:Option aX}{d m n:Nat}{ys:List α}(hxn:n=xs.length)(hm:m=ys.length)(hne:ys≠[])(sy:SlF h B ys)(hb:(2*(xs.length+ys.length)+192)*bytes<=281474976710656)(hn:xs.length+ys.length<=9223372036854775807){K:VP}
 (x:∀ A' c' h' g' o',g.le g'->Sep h' g' o'->cO o' e A' c' (xs++ys)->(∀ k u,o k=some u->A≠some ⟨k,0,none⟩->o' k=some u/\A'≠some ⟨k,0,none⟩)->K (.slice A' (xs.length+m) c') h'):
 wpH P (Builtin.append_ #[t,t] ty #[.slice A n c,.slice B m d]) K h:=by
 subst hxn
 obtain ⟨gb,p,q⟩:=w.priv s
 refine Af st p hm sy hb hn ?_
 intro A' c' h' g' T M
 rw [bC,<- hm]
 have l:∀ k u,h k=some u->A≠some ⟨k,0,none⟩->g' k=some u:=by
  intro k u a hne
  exact T k u (q k u a hne)
 have L:∀ k u,g k=some u->A≠some ⟨k,0,none⟩:=by
  intro k u a C
  rcases w.2 with ⟨_,h0⟩|⟨j,i,b,D,_⟩
  ·grind
  ·rw [C] at b
   simp only [Option.some.injEq,Addr.mk.injEq,and_true] at b
   subst b
   rw [s.dis k _ D] at a;cases a
 rcases M.2.2 with ⟨R,_⟩|⟨j,i,b,D,F,ha,S⟩
 ·exfalso
  have:=M.2.1
  simp_all
 ·subst b
  let o':aP:=fun k=>if k=j then some (.cells (List.toArray i) e) else if A=some ⟨k,0,none⟩ then none else o k
  have O:o' j=some (.cells (List.toArray i) e):=gz0
  have X:∀ k,k≠j->A≠some ⟨k,0,none⟩->o' k=o k:=fun k Q H=>by grind
  let g2:aP:=fun k=>match o' k with|some _=>none|none=>h' k
  have W:∀ k u,o' k=some u->g2 k=none:=fun k u a=>by grind
  have gn:∀ k,o' k=none->g2 k=h' k:=fun k a=>by grind
  have G:∀ k u,k≠j->g' k=some u->h' k=some u:=fun k u Q a=>by rw [F,B6 _ _ Q];exact a
  have N:∀ k u,o k=some u->A≠some ⟨k,0,none⟩->k≠j:=by
   rintro k u a H rfl
   have:=l k u (s.own k u a) H
   grind
  refine x _ c' h' g2 o' (fun k u a=>?_) ⟨fun k u a=>?_,fun k a=>(gn k a).symm,W⟩ ⟨M.2.1,.inr ⟨j,i,rfl,O,ha,S⟩⟩ (fun k u a H=>?_)
  ·have V:o k=none:=by
    cases ho:o k with
    | none=>rfl
    | some y=>rw [s.dis k y ho] at a;cases a
   have C:=L k u a
   have e3:=l k u (s.le k u a) C
   grind
  ·by_cases r:k=j
   ·subst r
    rw [O] at a;cases a
    rw [F,B8]
   ·by_cases C:A=some ⟨k,0,none⟩
    ·grind
    ·rw [X k r C] at a
     exact G k u r (l k u (s.own k u a) C)
  grind
end
def A6j(M:Nat->Nat->Rat)(w:Nat):Nat->List UInt8:=fun k=>C0 (M (k/w) (k%w))
section
variable {h:aP} {K:VP} {A:Option aX} {n cap m w:Nat} {M:Nat->Nat->Rat}
end
abbrev ecE(M:Nat->Nat->Rat)(n c:Nat):ES:=C36 n ⟨M,[],1⟩ c
def B8i(M:Nat->Nat->Rat)(n:Nat):∀ c,(ecE M n c).cs.length<=c/\(ecE M n c).cs.length<=n:=by
 intro c
 induction c with
 | zero=>exact ⟨aU _,Nat.zero_le _⟩
 | succ c ih=>
  show (Ue n c (ecE M n c)).cs.length<=c+1/\(Ue n c (ecE M n c)).cs.length<=n
  unfold Ue
  grind
abbrev qc(w:QV):List bN:=[.bool w.s,.slice w.A w.n w.c,.bool w.s2,.slice w.A2 w.n2 w.c2]
section
variable {g o h11 h14 h15 hp2:aP} {bo n w r c i B:Nat} {rb:Nat->Nat} {R:Nat->Nat->Rat} {x:QV} {q:Rat} {Invv Invv3:LP} {muv muv3:LN}
end
section
variable {g o h5 h9 hp2:aP} {bo n w r c B k:Nat} {rb:Nat->Nat} {R:Nat->Nat->Rat} {q:Rat} {Invv:LP} {muv:LN} {pA:Option aX} {pc:Nat} {wd wd0:QV} {l:List Nat}
end
section
variable {h:aP} {K:VP} {A:Option aX} {n cap m w:Nat} {M:Nat->Nat->Rat}
end
section
variable {h:aP} {K:VP} {A B:Option aX} {n m a b:Nat} {r c r2 c2:Int} {ls ls2:Nat->List UInt8}
structure Small (r c:Int) (n:Nat) (ls:Nat->List UInt8) (k d:Int):Prop where
 hr:r<=k
 hc:c<=k
 hn:(n:Int)<=k*k+2
 hl:∀ i,i<n->((ls i).length:Int)<=d
end
def Yo(ls:List (List UInt8)):(ls.flatMap fun l=>[aK (bs l)])=ls.map fun l=>aK (bs l):=by
 induction ls with
 | nil=>rfl
 | cons x l ih=>rw [dB,ih];rfl
def A8i{h:aP}{A:Option aX}{ls:List (List UInt8)}(s:SlV h A (ls.map fun l=>aK (bs l))):cU SSr h A ls.length (fun i=>ls.getD i []):=by
 refine ⟨ls,?_,rfl,fun i a=>⟨ls[i],aT a,?_⟩⟩
 ·show SlV h A (ls.flatMap fun l=>[aK (bs l)])
  rw [Yo];exact s
 ·show ls[i]=ls.getD i []
  simp [a]
def aw1:(elE (fun i=>([2,4,1,2]:List Rat).getD i 0) 2 2 2).cs=[0]:=by decide +kernel
def aw2:∀ k,k<4->C62 (fun i=>([2,4,1,2]:List Rat).getD i 0) 2 2 k=([1,2,0,0]:List Rat).getD k 0:=by decide +kernel
def B4c{P:Program}{t e' ty:dI}{z:bN}{bytes:Nat}(s:SliceT P t e' z 1 bytes){h g o:aP}{b:Nat}{arr:List bN}{e:dI}(sp:Sep h g o)(ho:o b=some (.cells arr.toArray e)){d n c m cc:Nat}(hd:d+n<=arr.length){B:Option aX}{ys:List bN}(sy:SlV h B ys)(hm:min m n=ys.length)(h1:∀ v∈ys,Jz v=true){K:VP}
 (x:∀ h',Sep h' g (o.put b (.cells (F2 arr d ys).toArray e))->K (I ys.length) h'):wpH P (dN #[t,t] ty #[.slice (some ⟨b,d,none⟩) n c,.slice B m cc]) K h:=by
 obtain ⟨i,q,r,k,l⟩:=s.parts
 have p:ys.length<=n:=oo
 unfold dN
 simp only [bH,cQ,dO,C1,E4 s.und,L4 q,I4,Builtin.lenOf,k]
 have a:Nat.min m n=ys.length:=hm
 rw [a]
 refine Jh (s:=1) (cs:=ys) (by simp) sy ?_
 simp only [C1]
 have j:h.put b (.cells arr.toArray e)=h:=Nk (sp.own b _ ho)
 rw [<- j]
 refine I3 ys d 0 arr oo h1 ?_
 exact x _ (sp.upd ho _)
section
variable {h:aP} {K:VP} {A:Option aX} {n ac N cap:Nat} {r c:Int} {la:Nat->List UInt8}
def A8k(x:List UInt8)(n:Nat):(aC n x).flatMap enc=aC n (aK (bs x)):=by
 have a:(aC n x).flatMap enc=(aC n x).flatMap fun l=>[aK (bs l)]:=rfl
 rw [a,Yo,List.map_replicate]
def A14{v:ByteArray}(s:SlV h A [.string v])(hN:1<=N)(hl:N<=1000000)
 (hK:∀ b h' o',Sep h' h o'->o' b=some (.cells (aC N (aK v)).toArray 9)->K (.slice (some ⟨b,0,none⟩) N N) h'):aR prog 125 #[.slice A 1 ac,I (N:Int)] h K:=by
 refine (fnk func125 [(8,[8],[],[I 0])]) ?_
 refine B4 (fun g=>oo) (fun _=>?_)
 rw [C3 (n:=((1:Nat):Int)) oo oo,C3 (n:=(N:Int)) oo oo]
 refine B17 oo oo ⟨_,_,rfl,?_⟩
 have L:((1:Nat):Int)*(N:Int)/18446744073709551616=0:=oo
 have G:((1:Nat):Int)*(N:Int)%18446744073709551616=N:=oo
 rw [L,G]
 refine B4 (fun g=>oo) (fun _=>?_)
 refine B4 (fun g=>oo) (fun _=>?_)
 rw [B5 (n:=(N:Int)) oo oo]
 refine D8 P9 (zx:=([]:List UInt8)) rfl oo oo oo oo ?_
 intro b q
 simp only [aL]
 refine ⟨_,_,_,rfl,?_⟩
 have r:=(Sep.refl h).new q (.cells ((aC N ([]:List UInt8)).flatMap enc).toArray 9)
 have x:h.le (h.put b (.cells ((aC N ([]:List UInt8)).flatMap enc).toArray 9)):=Heap.le_put _ q
 rw [A8k] at r x
 show wpH _ (dN _ _ _) _ (h.put b (.cells ((aC N ([]:List UInt8)).flatMap enc).toArray 9))
 rw [A8k]
 refine B4c P9 r (B8 _ _ _) (d:=0) (by simp) (s.mono x) (by simp;omega) (fun w H=>by rw [List.mem_singleton.1 H];rfl) ?_
 intro g y
 refine ⟨_,rfl,?_⟩
 have cut:F2 (aC N (aK (bs []))) 0 [aK v]=aC 1 (aK v)++aC (N-1) (aK (bs [])):=by
  unfold F2
  simp
 rw [cut] at y
 refine ⟨fun l c=>∃ (k:Nat) (o:aP),l=[I (k:Int)]/\0<k/\k<=N/\Sep c h o/\o b=some (.cells (aC k (aK v)++aC (N-k) (aK (bs []))).toArray 9),fun l _=>N-(iAt l 0).toNat,⟨1,_,rfl,oo,hN,y,B8 _ _ _⟩,?_⟩
 rintro i c ⟨k,o,p,F,B,w,e⟩
 obtain rfl:=sI1 p
 refine B4 (fun D=>?_) (fun D=>?_)
 ·refine ⟨⟨oo,oo⟩,⟨oo,oo⟩,?_⟩
  simp only [aL,O7,dR]
  rw [V1 oo,D4,aZ,Nat.mul_one]
  have m:(aC k (aK v)++aC (N-k) (aK (bs []))).length=N:=by simp;omega
  have E:SlV c (some ⟨b,0,none⟩) (aC (min k (N-k)) (aK v)):=by
   right
   refine ⟨_,rfl,fun i u a=>?_⟩
   have j:i<min k (N-k):=by
    by_cases j:i<min k (N-k)
    ·exact j
    ·rw [List.getElem?_eq_none (by rw [aY];omega)] at a;cases a
   rw [cP,iP j] at a
   rw [D4,aZ]
   unfold Heap.cell?
   simp only [w.own b _ e,Option.isSome_none,Bool.false_eq_true,if_false,bH]
   rw [bO (by rw [aY];omega),cP,iP oo]
   exact a
  refine B4c P9 w e (d:=k) (by rw [m];omega) E (by rw [aY]) (fun u a=>by rw [List.eq_of_mem_replicate a];rfl) ?_
  intro O z
  rw [aY]
  have M:B9 ((k:Int)+(min k (N-k):Nat))=((k+min k (N-k):Nat):Int):=by rw [B5 oo oo];omega
  have C:F2 (aC k (aK v)++aC (N-k) (aK (bs []))) k (aC (min k (N-k)) (aK v))=aC (k+min k (N-k)) (aK v)++aC (N-(k+min k (N-k))) (aK (bs [])):=by
   unfold F2
   rw [List.take_left' (by simp),aY,List.drop_append,dX (by rw [aY];omega),List.nil_append,aY,List.drop_replicate,List.replicate_append_replicate]
   congr 2
   omega
  rw [C] at z
  refine ⟨_,rfl,?_⟩
  rw [M]
  exact ⟨⟨k+min k (N-k),_,rfl,oo,oo,z,B8 _ _ _⟩,by simp only [Ca];omega⟩
 ·have:k=N:=oo
  subst this
  rw [dT,List.replicate_zero,cT] at e
  exact hK b c o w e
def B3p{rows cols i j:Nat}(gl:Gl h)(ra:cU SSr h A n la)(hn:n<=1000000)(hl:∀ i,i<n->(la i).length<=140737488351232)(mk:MOk r c n la rows cols)(hi:i<rows)(hj:j<cols)
 (hK:K (.string (bs (la (i*cols+j)))) h):aR prog 145 #[B84 r c A n cap,I (i:Int),I (j:Int)] h K:=by
 refine (fnk func145 (own:=[3])) ?_
 refine A3l gl ra hn hl (fun _=>⟨_,rfl,?_⟩) (fun e=>absurd ⟨_,_,mk⟩ e)
 have:=mk.r2;have:=mk.c2
 obtain ⟨rfl,rfl,_,_,_,_,rfl,_⟩:=id mk
 show Br (decide ((i:Int)<0)) _ _
 refine B4 (fun b=>o) (fun _=>?_)
 refine B4 (fun b=>o) (fun _=>?_)
 refine B4 (fun b=>o) (fun _=>?_)
 refine B4 (fun b=>o) (fun _=>?_)
 refine B4 (fun b=>o) (fun _=>?_)
 have d:=Qb hi hj
 have m:rows*cols<=64*64:=cJ o o
 have k:B9 (B9 ((i:Int)*(cols:Int))+(j:Int))=((i*cols+j:Nat):Int):=by
  rw [<- cF,Bf o]
  exact Bf (n:=i*cols+j) o
 rw [k]
 obtain ⟨a,l,g⟩:=ra.sat d
 exact ⟨a,l,o,o,_,g,hK⟩
end
structure TV where
 l:List UInt8
 A:Option aX
 n:Nat
 c:Nat
abbrev TV.v(t:TV):bN:=.agg #[.string (bs t.l),.slice t.A t.n t.c]
instance:Enc TV:=⟨⟨fun t=>[.string (bs t.l),.slice t.A t.n t.c],2,fun _=>rfl,fun t v hv=>by simp at hv;rcases hv with rfl|rfl<;>rfl⟩⟩
def TEr:aP->TV->K9->Prop:=fun h t p=>t.l=p.1/\t.n=p.2.length/\SlI .i64 h t.A p.2
def B3m:Mon TEr:=fun _ _ _ _ a i=>⟨i.1,i.2.1,SlI.mono a i.2.2⟩
def Vm{h:aP}{A:Option aX}{ts:List K9}(r:cU TEr h A ts.length (tm ts)):cL h A ts:=fun i j=>by
 obtain ⟨a,w,rfl,⟨d,g,e⟩,b⟩:=r.at dc j
 have c0:=b 0 _ rfl
 have c1:=b 1 _ rfl
 rw [d] at c0
 rw [g] at c1
 exact ⟨a,w.A,w.c,rfl,c0,c1,e⟩
def tF(c:Nat->Rat)(f:Nat->Nat)(n:Nat):List K9:=(cX n).map fun i=>(C0 (c (f i)),[(f i:Int)])
def A84(c:Nat->Rat)(f:Nat->Nat)(n:Nat):(tF c f n).length=n:=by simp [tF]
def C3i(c:Nat->Rat)(f:Nat->Nat){n i:Nat}(hi:i<n):tm (tF c f n) i=(C0 (c (f i)),[(f i:Int)]):=by
 simp [tm,tF,aE,hi]
def B9o{k:Nat}(h:k<=24):Rm [(k:Int),0,0,0,0,0]=true:=by
 have:A7c [(k:Int),0,0,0,0,0]=k:=by
  simp only [A7c,Us,aW,cC]
  rw [iN o,iN o,iN o,iN o,iN o,iN o,iN o]
  omega
 unfold Rm
 rw [this]
 simp
section
variable {h g o:aP} {K:VP} {c:Nat->Rat} {bb n ca m:Nat} {A:Option aX}
def Pu{es:List EV}{f:Nat->Nat}(gp:Gp g)(s:Sep h g o)(rb:RowB o bb es)(hl:es.length=n)(rr:Row (ENk c) g es n f)(hi:Inj n f)(h1:1<=n)(hn:n<=12)(hk:∀ i,i<n->f i<=24)(hs:∀ i,i<n->Sz m (c (f i)))(hm:m<=40000000)
 (hK:∀ A' c' h' f',g.le h'->cL h' A' (tF c f' n)->B9c f' n->Same n f' f->K (.tuple #[.agg #[I 1,.slice A' n c'],I 0]) h'):
 aR prog 62 #[I 1,.slice (some ⟨bb,0,none⟩) n ca] h K:=by
 refine (fnk func62 [(8,[35],[],[I 0])] (cs:=[(6,[],[(4,2)],[I 0,.slice none 0 0])]) (os:=[(12,[0,1,2,3,4,6,5,7,8,9])]) (own:=[4,6]) (wr:=[137])) ?_
 refine B4 (fun an=>oo) (fun _=>?_)
 refine A3d s rb hl rr hi hn (fun i hi=>by have:=hk i hi;omega) ?_
 intro C g1 o1 x l W s1 X ai ac T E keep
 have fb:∀ i,i<n->l i<=24/\Sz m (c (l i)):=fun i hi=>by
  obtain ⟨i',R,e⟩:=(E (l i)).1 ⟨i,hi,rfl⟩
  rw [<- e];exact ⟨hk i' R,hs i' R⟩
 have er:cU (ENk c) C (some ⟨bb,0,none⟩) n l:=⟨x,X.slF s1.ole,ai,ac.mono (Qm c) s1.le⟩
 refine ⟨rfl,fun L hq=>L=[I 0,.slice none 0 0]/\hq=C,B4 (fun _=>?_) (fun N=>oo),?_⟩
 ·have hc:=B8h X (i:=0) oo
  have k0:=(ac.get (i:=0) oo oo).2
  refine ⟨_,rfl,oo,oo,?_⟩
  have ec:U3 (some (aN (aN ⟨bb,0,none⟩ (((0:Int)).toNat*10)) 0)) 6 0 1=some ⟨bb,0,none⟩:=by rw [V1 oo];rfl
  rw [ec]
  have sl:SlI .i64 C (some ⟨bb,0,none⟩) (x[0]'oo).xs:=by
   right
   refine ⟨_,rfl,fun i v a=>?_⟩
   have O:∀ j v,(enc (x[0]'oo))[j]? = some v->C.cell? (aN ⟨bb,0,none⟩ j)=some v:=fun j v hj=>s1.cell (hc j v hj)
   match i,a with
   | 0,a=>exact O 0 v a
   | 1,a=>exact O 1 v a
   | 2,a=>exact O 2 v a
   | 3,a=>exact O 3 v a
   | 4,a=>exact O 4 v a
   | 5,a=>exact O 5 v a
   | i+6,a=>cases a
  refine Cn (xs:=(x[0]'oo).xs) sl ⟨_,rfl,?_⟩
  rw [k0,B9o (fb 0 oo).1]
  exact B4z ⟨rfl,rfl⟩
 ·rintro aq ak al am hq ⟨eL,rfl⟩
  refine D8 A4k (zx:=(⟨[],none,0,0⟩:TV)) rfl oo oo oo oo ?_
  intro bt af
  rw [aL]
  refine ⟨_,_,_,rfl,fun L Q=>∃ k:Nat,k<=n/\L=[I k]/\OwnK TEr hq Q bt n k (fun i=>(C0 (c (l i)),[(l i:Int)])),fun L _=>n-(iAt L 0).toNat,⟨0,oo,rfl,OwnK.zero af⟩,?_⟩
  rintro t Q ⟨k,ao,eL,F,V,ws,B,s2,aa,S,ab⟩
  obtain rfl:=sI1 eL
  have gq:Gp hq:=(gp.mono (A0 W s1.le))
  refine B4 (fun ap=>?_) (fun ar=>?_)
  ·have G:k<n:=oo
   obtain ⟨a1,ev,ea,⟨iq,xs⟩,M⟩:=(er.mono (Qm c) B).at dc G
   obtain rfl:=bU ea
   have hx:ev.x0=(l k:Int)/\ev.x1=0/\ev.x2=0/\ev.x3=0/\ev.x4=0/\ev.x5=0:=by
    simp only [EV.xs,aJ,and_true] at xs
    exact xs
   have u:∀ j v,(enc ev)[j]? = some v->Q.cell? (aN (aN ⟨bb,0,none⟩ (k*10)) j)=some v:=fun j v a=>B7 s2.le (M j v a)
   refine ⟨_,rfl,oo,oo,_,_,_,_,_,_,_,_,_,_,_,_,_,_,u 0 _ rfl,u 1 _ rfl,u 2 _ rfl,u 3 _ rfl,u 4 _ rfl,u 5 _ rfl,u 6 _ rfl,u 7 _ rfl,u 8 _ rfl,u 9 _ rfl,?_⟩
   refine Iv fun b H=>?_
   have s3:=s2.vis H (.cells (enc ev).toArray 126)
   refine D8 Qh (zx:=(0:Int)) rfl oo oo oo oo ?_
   intro q p
   refine ⟨_,_,_,rfl,?_⟩
   have D:F.put b (.cells (enc ev).toArray 126) q=none:=by
    cases N:F.put b (.cells (enc ev).toArray 126) q with
    | none=>rfl
    | some y=>rw [s3.le _ _ N] at p;cases p
   have s4:=s3.new p (.cells ((aC 1 (0:Int)).flatMap enc).toArray 3)
   have ec:U3 (some (aN ⟨b,0,none⟩ 0)) 6 0 1=some ⟨b,0,none⟩:=by rw [V1 oo];rfl
   rw [ec]
   have r:∀ {hq':aP},True->(hq' b=some (.cells (enc ev).toArray 126))->∀ j v,(enc ev)[j]? = some v->hq'.cell? ⟨b,j,none⟩=some v:=fun _ e j v a=>by
    unfold Heap.cell?
    simp only [e]
    rw [bH];exact a
   have ag:b≠q:=by
    rintro rfl
    rw [B8] at D;cases D
   have ad:(W9 3 (Q.put b (.cells (enc ev).toArray 126)) q (aC 1 (0:Int))) b=some (.cells (enc ev).toArray 126):=by
    unfold W9
    rw [B6 _ _ ag,B8]
   have sy:SlV (W9 3 (Q.put b (.cells (enc ev).toArray 126)) q (aC 1 (0:Int))) (some ⟨b,0,none⟩) [I (l k:Int)]:=by
    right
    refine ⟨_,rfl,fun i v a=>?_⟩
    rw [F3,aZ]
    match i,a with
    | 0,a=>
     refine r trivial ad 0 v ?_
     rw [<- hx.1] at a;exact a
   refine B4c Qh s4 (B8 _ _ _) (arr:=[I (0:Int)]) (d:=0) (n:=1) (by simp) sy rfl (fun v a=>by rw [List.mem_singleton.1 a];rfl) ?_
   intro h7 s7
   have A:h7 b=some (.cells (enc ev).toArray 126):=by
    have:F.put b (.cells (enc ev).toArray 126) b=some (.cells (enc ev).toArray 126):=B8 _ _ _
    exact s7.le _ _ this
   have e6:∀ j,aN (aN ⟨b,0,none⟩ 6) j=⟨b,6+j,none⟩:=fun j=>by rw [F3,F3]
   refine ⟨_,rfl,_,_,_,_,_,_,_,_,by rw [e6];exact r trivial A 6 _ rfl,by rw [e6];exact r trivial A 7 _ rfl,by rw [e6];exact r trivial A 8 _ rfl,by rw [e6];exact r trivial A 9 _ rfl,?_⟩
   have lo:V.le ((V.put q (.cells ((aC 1 (0:Int)).flatMap enc).toArray 3)).put q (.cells (F2 [I (0:Int)] 0 [I (l k:Int)]).toArray 3)):=fun k y e=>by
    have:k≠q:=by
     rintro rfl
     have:=s3.own _ _ e
     rw [this] at p;cases p
    rw [B6 _ _ this,B6 _ _ this];exact e
   obtain ⟨g8,l8,s8⟩:=s7.give lo
   have aj:V q=none:=by
    cases N:V q with
    | none=>rfl
    | some y=>rw [s3.own _ _ N] at p;cases p
   have ah:g8 q=some (.cells [I (l k:Int)].toArray 3):=by
    rw [<- s8.rest q aj]
    exact s7.own _ _ (B8 _ _ _)
   have ae:F.le (F.put b (.cells (enc ev).toArray 126)):=Heap.le_put _ (by
    cases N:F b with
    | none=>rfl
    | some y=>rw [s2.le _ _ N] at H;cases H)
   have z:F.le g8:=A0 ae l8
   have i8:RQ g8 ev.w (c (l k)):=⟨iq.num.mono z,iq.den.mono z⟩
   refine s8.call (I9 (gq.mono (A0 B z)) i8 (fb k G).2 hm ?_)
   intro h9 s9
   refine ⟨_,rfl,s8.grow s9 (B0 _),_,rfl,oo,oo,?_⟩
   refine OwnK.store B3m A5r (y:=(⟨C0 (c (l k)),some ⟨q,0,none⟩,1,1⟩:TV)) B z s9 aa S ab G rfl ⟨rfl,rfl,?_⟩ ?_
   ·right
    refine ⟨_,rfl,fun i v a=>?_⟩
    rw [F3,aZ]
    unfold Heap.cell?
    simp only [ah]
    rw [bH];exact a
   ·intro h2 ow
    rw [wiS k oo]
    exact ⟨⟨k+1,oo,rfl,ow⟩,by simp only [Ca];omega⟩
  ·obtain rfl:k=n:=oo
   have ow:Own TEr hq Q bt k (fun i=>(C0 (c (l i)),[(l i:Int)])):=⟨F,V,ws,B,s2,aa,S,ab⟩
   refine hK _ _ _ l (A0 W (A0 s1.le ow.le)) (Vm ?_) T E
   rw [A84]
   exact (ow.vis B3m).congr fun i hi=>(C3i c l hi).symm
end
def Ve(A M B:List bN)(i:Nat)(vs:List bN)(h:i+vs.length<=M.length):F2 (A++M++B) (A.length+i) vs=A++F2 M i vs++B:=by
 unfold F2
 have b:(A++M++B).take (A.length+i)=A++M.take i:=by
  rw [bY,List.take_append,List.take_of_length_le o,Nat.add_sub_cancel_left,List.take_append_of_le_length o]
 have a:(A++M++B).drop (A.length+i+vs.length)=M.drop (i+vs.length)++B:=by
  rw [bY,List.drop_append,dX o,List.nil_append,show A.length+i+vs.length-A.length=i+vs.length from o,List.drop_append_of_le_length h]
 rw [b,a]
 simp only [bY]
def Cw{P:Program}{t:dI}{n:Nat}(one:P.cellsOf t=n/\(P.info? t).isSome=true){v:bN}{vs:List bN}(hv:v.cells=vs.toArray)(hn:vs.length=n)(h1:∀ v∈vs,Jz v=true){h g o:aP}(s:Sep h g o){b off:Nat}{e:dI}{arr:List bN}(ho:o b=some (.cells arr.toArray e))(hl:off+n<=arr.length){K:Unit->aP->Prop}
 (x:∀ h',Sep h' g (o.put b (.cells (F2 arr off vs).toArray e))->K () h'):wpH P (Instr.storeAt t (.pointer (some ⟨b,off,none⟩)) v) K h:=by
 have a:(h.without b).put b (.cells arr.toArray e)=h:=K7 (s.own b _ ho)
 have key:=Dq (P:=P) one hv hn h1 (g:=h.without b) (b:=b) (off:=off) (e:=e) hl (K:=K) (by
  have:(h.without b).put b (.cells (F2 arr off vs).toArray e)=h.put b (.cells (F2 arr off vs).toArray e):=by rw [<- a,W7,a]
  rw [this]
  exact x _ (s.upd ho _))
 rw [a,F3,aZ] at key
 exact key
def A6k{es:List EV}{k:Nat}(hk:k<es.length)(h0:es[k]? = some Ko)(w:QV)(x:Int):
 F2 (F2 (es.flatMap enc) (k*10+6) [.bool w.s,.slice w.A w.n w.c,.bool w.s2,.slice w.A2 w.n2 w.c2]) (k*10) [I x]=(es.set k (⟨x,0,0,0,0,0,w⟩:EV)).flatMap enc:=by
 have g:es[k]=Ko:=by
  rw [aT hk] at h0;exact bU h0
 have a:es=es.take k++Ko::es.drop (k+1):=by
  rw [<- g,<- List.drop_eq_getElem_cons hk,List.take_append_drop]
 have d:((es.take k).flatMap enc).length=k*10:=by rw [I7,dH,Nat.min_eq_left o];rfl
 have e:es.flatMap enc=(es.take k).flatMap enc++enc Ko++(es.drop (k+1)).flatMap enc:=by
  conv=>lhs;rw [a]
  rw [List.flatMap_append,dB,bY]
 have b:es.set k (⟨x,0,0,0,0,0,w⟩:EV)=es.take k++(⟨x,0,0,0,0,0,w⟩:EV)::es.drop (k+1):=List.set_eq_take_append_cons_drop▸gz0
 rw [e,<- d,Ve _ _ _ 6 _ (by show 6+4<=10;omega)]
 have:=Ve ((es.take k).flatMap enc) (F2 (enc Ko) 6 [.bool w.s,.slice w.A w.n w.c,.bool w.s2,.slice w.A2 w.n2 w.c2]) ((es.drop (k+1)).flatMap enc) 0 [I x] (by show 0+1<=10;omega)
 simp only [Nat.add_zero] at this
 rw [this,b,List.flatMap_append,dB,bY]
 rfl
def B9x{c:Nat->Rat}{n:Nat}{l:List Nat}{f:Nat->Nat}(fall:B9c f l.length)(same:Same l.length f (fun i=>l.getD i 0))(hm:∀ v,v∈l↔(∃ i,i<n/\i=v)/\c v≠0):tF c f l.length=tU c n:=by
 have e:(cX l.length).map f=ks c n:=by
  refine B3z ?_ (Sn c n) fun x=>?_
  ·refine List.pairwise_map.2 (List.pairwise_iff_getElem.2 fun i j b a m=>?_)
   simp only [List.getElem_range]
   exact fall i j m (by simpa using a)
  ·rw [Co,dV]
   have r:=same x
   have q:=hm x
   constructor
   ·rintro ⟨i,b,e⟩
    obtain ⟨j,a,g⟩:=r.1 ⟨i,List.mem_range.1 b,e⟩
    have:x∈l:=by
     rw [<- g]
     simp [aE,a]
    obtain ⟨⟨w,s,p⟩,k⟩:=q.1 this
    exact ⟨o,k⟩
   ·rintro ⟨u,k⟩
    have d:=q.2 ⟨⟨x,u,rfl⟩,k⟩
    obtain ⟨j,a,g⟩:=List.getElem_of_mem d
    obtain ⟨i,b,p⟩:=r.2 ⟨j,a,by simp [aE,a,g]⟩
    exact ⟨i,List.mem_range.2 b,p⟩
 unfold tF tU
 rw [<- e,List.map_map]
 rfl
section
variable {h g o:aP} {K:VP} {c:Nat->Rat} {bb n ca m:Nat} {A:Option aX} {ls:Nat->List UInt8}
def Xp(hK:∀ A' c' h',h.le h'->cL h' A' []->K (.tuple #[.agg #[I 1,.slice A' 0 c'],I 0]) h'):aR prog 62 #[I 1,.slice A 0 ca] h K:=by
 refine (fnk func62 [(8,[35],[],[I 0])] (cs:=[(6,[],[(4,2)],[I 0,.slice none 0 0])]) (os:=[(12,[0,1,2,3,4,6,5,7,8,9])]) (own:=[4,6]) (wr:=[137])) ?_
 refine B4 (fun j=>oo) (fun _=>?_)
 refine A0r ⟨rfl,fun L a=>L=[I 0,.slice none 0 0]/\a=h,B4 (fun q=>oo) (fun _=>⟨rfl,rfl⟩),?_⟩
 rintro m d e g a ⟨k,rfl⟩
 refine D8 A4k (zx:=(⟨[],none,0,0⟩:TV)) rfl oo oo oo oo ?_
 intro r b
 refine ⟨_,_,_,rfl,fun L c=>L=[I 0]/\a.le c,fun _ _=>0,⟨rfl,Heap.le_put _ b⟩,?_⟩
 rintro t c ⟨k,n⟩
 obtain rfl:t=0:=by simpa using k
 exact B4 (fun l=>oo) (fun _=>hK _ _ _ n fun i p=>by simp at p)
def tL(ls:Nat->List UInt8)(n:Nat):List K9:=(cX n).map fun e=>(ls e,[(e:Int)])
def B58(n:Nat):(tL ls n).length=n:=by simp [tL]
def B9t{n i:Nat}(hi:i<n):tm (tL ls n) i=(ls i,[(i:Int)]):=by
 simp [tm,tL,aE,hi]
def B9p{k:Nat}(h:k<=24):Rm [(k:Int)]=true:=by
 have:A7c [(k:Int)]=k:=by
  simp only [A7c,Us,aW,cC]
  rw [iN oo,iN oo]
  omega
 unfold Rm
 rw [this]
 simp
def A3f(gl:Gl h)(pa:cL h A (tL ls n))(num:∀ i,i<n->IsNum (ls i))(hl:∀ i,i<n->(ls i).length<=140737488351232)(h1:1<=n)(hn:n<=12)(hs:∀ i,i<n->Sz m (rv (ls i)))(hm1:1<=m)(hm:m<=40000000)(hne:∃ i,i<n/\rv (ls i)≠0)
 (hK:∀ A' c' h',h.le h'->cL h' A' (tU (fun i=>rv (ls i)) n)->K (.tuple #[.agg #[I 1,.slice A' (tU (fun i=>rv (ls i)) n).length c'],I 0]) h'):
 aR prog 23 #[I 1,.slice A n ca] h K:=by
 refine (fnk func23 [(5,[23],[(4,2)],[I 0,I 0,.slice none 0 0])] (own:=[4,8,9]) (wr:=[62])) ?_
 refine B4 (fun V=>oo) (fun _=>B4 (fun V=>oo) (fun _=>?_))
 refine D8 X7 (zx:=Ko) rfl oo oo oo oo ?_
 intro r ag
 rw [aL]
 have s0:Sep (W9 126 h r (aC n Ko)) h (J8.put r (.cells ((aC n Ko).flatMap enc).toArray 126)):=F1 ag
 refine ⟨_,_,_,rfl,fun L hp=>∃ (k:Nat) (z:Int) (B:Option aX) (bn bc:Nat) (g o:aP) (E:List EV),k<=n/\L=[I k,I z,.slice B bn bc]/\h.le g/\Sep hp g o/\o r=some (.cells (E.flatMap enc).toArray 126)/\E.length=n/\Row (ENk fun i=>rv (ls i)) g E k (fun i=>i)/\∀ i,k<=i->i<n->E[i]? = some Ko,fun L _=>n-(iAt L 0).toNat,⟨0,_,_,_,_,h,_,aC n Ko,oo,rfl,B0 _,s0,B8 _ _ _,by simp,Row.nil,fun i _ p=>by rw [cP,iP p]⟩,?_⟩
 rintro t z tA tn tc hp ⟨k,z',B,bn,bc,g1,o1,E,hk,eL,X,N,ho,G,rr,V⟩
 simp only [aJ,aO,bF,true_and,and_true] at eL
 obtain ⟨rfl,rfl,rfl,rfl,rfl⟩:=eL
 refine B4 (fun ai=>?_) (fun aj=>?_)
 ·have y:k<n:=oo
  obtain ⟨a,B,cB,ha,c0,c1,sB⟩:=(pa.mono X) k (by rw [B58];exact y)
  rw [B9t y] at c0 c1 sB
  subst ha
  refine ⟨a,rfl,oo,oo,_,_,_,_,B7 N.le c0,B7 N.le c1,?_⟩
  refine N.call (Q9 (gl.mono X).tz (hl k y) (fun q eq w g2 l2 iq=>?_) (fun ab=>absurd (num k y) ab))
  intro h2 s2
  refine ⟨_,_,_,_,_,_,_,_,_,rfl,B4z (D6 (fun e=>absurd rfl e) (fun _=>?_))⟩
  refine s2.call (Cn (xs:=[(k:Int)]) (SlI.mono l2 sB) ?_)
  intro h3 s3
  refine ⟨_,rfl,?_⟩
  rw [B9p oo]
  refine B4z ⟨_,rfl,oo,oo,?_⟩
  have e6:aN (aN ⟨r,0,none⟩ (((k:Nat):Int).toNat*10)) 6=⟨r,k*10+6,none⟩:=by rw [F3,F3,aZ,aL]
  have D:(E.flatMap enc).length=n*10:=by rw [I7,G];rfl
  rw [e6]
  refine Cw Li (vs:=[.bool w.s,.slice w.A w.n w.c,.bool w.s2,.slice w.A2 w.n2 w.c2]) rfl rfl (by simp [Jz]) s3 ho (by rw [D];omega) ?_
  intro h4 s4
  refine ⟨_,rfl,oo,oo,?_⟩
  have e0:U3 (some (aN (aN ⟨r,0,none⟩ (((k:Nat):Int).toNat*10)) 0)) 6 0 1=some ⟨r,k*10,none⟩:=by
   rw [V1 oo,F3,F3,F3,aZ,aL];simp
  rw [e0]
  refine B4c Qh s4 (B8 _ _ _) (d:=k*10) (n:=6) (m:=1) (ys:=[I (k:Int)]) ?_ (SlV.mono (A0 l2 s4.le) sB) rfl (fun v hv=>by rw [List.mem_singleton.1 hv];rfl) ?_
  ·have:(F2 (E.flatMap enc) (k*10+6) [.bool w.s,.slice w.A w.n w.c,.bool w.s2,.slice w.A2 w.n2 w.c2]).length=n*10:=by
    unfold F2
    rw [bC,bC,dH,List.length_drop,D]
    simp only [aW,cC]
    omega
   rw [this];omega
  ·intro h5 s5
   rw [W7,A6k oo (V k (aU _) y)] at s5
   rw [wiS k oo]
   refine ⟨_,rfl,⟨k+1,_,_,_,_,g2,_,E.set k ⟨(k:Int),0,0,0,0,0,w⟩,oo,rfl,A0 X l2,s5,B8 _ _ _,by simp [G],(rr.mono (Qm _) l2).set oo ⟨?_,rfl⟩,fun i h6 h7=>?_⟩,by simp only [Ca];omega⟩
   ·show RQ g2 w (rv (ls k))
    have af:ls k=C0 q:=eq
    rw [af,C2];exact iq
   ·rw [List.getElem?_set_ne oo];exact V i oo h7
 ·obtain rfl:k=n:=oo
  refine H8 B9y (vs:=[.slice (some ⟨r,0,none⟩) k k]) (fun u hu=>by rw [List.mem_singleton.1 hu];rfl) rfl (by show 1*1<=16777216;decide) rfl ?_
  intro bl ad
  refine ⟨_,_,_,rfl,?_⟩
  have R:=Heap.le_put (.cells ([Value.slice (some ⟨r,0,none⟩) k k].flatMap (fun v=>v.cells.toList)).toArray 121) ad
  have rb:RowX o1 r E:=⟨_,ho⟩
  have er:cU (ENk fun i=>rv (ls i)) hp (some ⟨r,0,none⟩) k (fun i=>i):=⟨E,rb.rowB.slF N.ole,G,rr.mono (Qm _) N.le⟩
  have C:=A0 X (A0 N.le R)
  refine Ul (c:=fun i=>rv (ls i)) (a:=⟨bl,0,none⟩) (B:=some ⟨r,0,none⟩) (bc:=k) (gl.mono C).tz ?_ (er.mono (Qm _) R) (fun i j _ _ e=>e) hn hs hm1 oo ?_
  ·unfold Heap.cell?
   show (match Heap.put hp bl _ bl with|some (.cells c _ _)=>c[0]? | _=>none)=_
   rw [B8]
   rfl
  intro A6 c6 h6 g6 o6 ak l l6 s6 aa H ac nd b
  refine ⟨_,_,_,rfl,?_⟩
  have O:Inj l.length (fun i=>l.getD i 0):=fun i j p W e=>by
   simp only [aE,aT p,aT W,dG] at e
   rcases Nat.lt_trichotomy i j with z|z|z
   ·exact absurd e (List.pairwise_iff_getElem.1 nd i j p W z)
   ·exact z
   ·exact absurd e.symm (List.pairwise_iff_getElem.1 nd j i W p z)
  have M:1<=l.length:=by
   obtain ⟨i,p,h0⟩:=hne
   have:i∈l:=(b i).2 ⟨⟨i,p,rfl⟩,h0⟩
   exact List.length_pos_of_mem this
  have ah:l.length<=k:=by
   have h2:l ⊆ cX k:=fun x hx=>by
    obtain ⟨⟨i,p,e⟩,_⟩:=(b x).1 hx
    exact List.mem_range.2 oo
   have:=nd.length_le_of_subset h2
   simpa using this
  have F:∀ i,i<l.length->l.getD i 0<k:=fun i p=>by
   have:l.getD i 0∈l:=by simp [aE,p]
   obtain ⟨⟨j,W,e⟩,_⟩:=(b _).1 this
   omega
  obtain ⟨bb,rfl,ae⟩:=aa.rowB (by intro z;rw [z] at H;simp at H;omega)
  refine Pu (gl.mono (A0 C l6)).p10 s6 ae H ac O M oo (fun i p=>by have:=F i p;omega) (fun i p=>hs _ (F i p)) hm ?_
  intro A7 c7 h7 f7 l7 T Q S
  have e7:=B9x Q S b
  rw [e7] at T
  have e8:l.length=(tU (fun i=>rv (ls i)) k).length:=by rw [<- e7,A84]
  refine ⟨_,_,_,_,_,rfl,?_⟩
  rw [e8]
  exact hK _ _ _ (A0 C (A0 l6 l7)) T
end
section
variable {h:aP} {K:VP} {A B:Option aX} {n cap m:Nat} {r c:Int} {ls:Nat->List UInt8}
end
section
variable {h:aP} {K:VP} {A:Option aX} {n cap m w:Nat} {r c:Int} {ls:Nat->List UInt8} {M:Nat->Nat->Rat}
end
section
variable {α β:Type} {R:aP->α->β->Prop} {g:aP}
def Row.app{xs ys:List α}{f:Nat->β}{p q:Nat}(hp:xs.length=p)(r:Row R g xs p f)(r2:Row R g ys q (fun j=>f (p+j))):Row R g (xs++ys) (p+q) f:=fun i b=>by
 by_cases h:i<p
 ·obtain ⟨w,e,x⟩:=r i h
  exact ⟨w,by rw [bO o];exact e,x⟩
 ·obtain ⟨w,e,x⟩:=r2 (i-p) o
  refine ⟨w,by rw [cK o,hp];exact e,?_⟩
  have a:p+(i-p)=i:=o
  show R g w (f i)
  rw [<- a];exact x
end
section
variable {h:aP} {K:VP} {A:Option aX} {n cap m:Nat} {r c:Int} {ls:Nat->List UInt8}
def Js{z:Int}(hz: -9223372036854775808<=z/\z<=9223372036854775807)(hK:∀ w h',h.le h'->RQ h' w (z:Rat)->K w.v h'):aR prog 102 #[I z] h K:=by
 refine (fnk func102 (own:=[2])) ?_
 exact N5 hz.1 hz.2 fun b A1 a c1 h' l i=>⟨_,_,_,_,rfl,hK _ h' l (Xh i)⟩
end
section
variable {h g o:aP} {K:VP} {c:Nat->Rat} {bb n ca m:Nat} {A:Option aX} {ls:Nat->List UInt8}
def Kv(gl:Gl h)(r:cU SSr h A n ls)(h1:1<=n)(hn:n<=12)(hl:∀ i,i<n->(ls i).length<=140737488351232)(u:Uok n ls)(hs:∀ i,i<n->Sz m (rv (ls i)))(hm1:1<=m)(hm:m<=40000000)
 (hK:∀ A' c' h',h.le h'->cL h' A' (tU (fun i=>rv (ls i)) n)->K (.tuple #[.agg #[I 1,.slice A' (tU (fun i=>rv (ls i)) n).length c'],I 0]) h'):
 aR prog 10 #[.slice A n ca,I 1,I 0] h K:=by
 refine (fnk func10 [(9,[8,41],[],[.slice none 0 0,I 0])] (own:=[6])) ?_
 refine Gq gl r oo hl (fun _ h1 X=>⟨_,rfl,?_⟩) (fun C=>absurd u C)
 refine P6 (B4 (fun z=>oo) (fun _=>B4 (fun z=>oo) (fun _=>B4 (fun z=>oo) (fun _=>B4 (fun z=>oo) (fun _=>B4 (fun z=>oo) (fun _=>?_))))))
 refine ⟨fun L H=>∃ (t:Nat) (g o:aP) (Ac:Option aX) (D:Nat) (s:List TV),t<=n/\L=[.slice Ac t D,I (t:Int)]/\h1.le g/\Sep H g o/\cO o 61 Ac D s/\s.length=t/\Row TEr g s t (fun e=>(ls e,[(e:Int)])),fun L _=>n-(iAt L 1).toNat,⟨0,h1,J8,none,0,[],oo,rfl,B0 _,Sep.refl _,OwnSl.nil,rfl,Row.nil⟩,?_⟩
 rintro Ac c D tz H ⟨t,g1,B,Ac',ac,s,ht,eL,F,q,V,b,R⟩
 obtain ⟨⟨rfl,rfl,rfl⟩,rfl⟩:=sI2 eL
 refine B4 (fun ab=>?_) (fun aa=>?_)
 ·have j:c<n:=oo
  obtain ⟨a,rfl,hc⟩:=(r.mono Jc (A0 X (A0 F q.le))).sat j
  refine ⟨a,rfl,oo,oo,_,hc,?_⟩
  refine D8 Qh (zx:=(0:Int)) rfl oo oo oo oo ?_
  intro d p
  refine ⟨_,_,_,rfl,_,rfl,oo,oo,?_⟩
  have s2:=q.new p (.cells ((aC 1 (0:Int)).flatMap enc).toArray 3)
  refine E7 Do (y:=(c:Int)) rfl s2 (RowX.mk (e:=3)) (i:=0) dc ?_
  rintro h3 o3 x3 rfl W r3
  have x:B d=none:=by
   cases hz:B d with
   | none=>rfl
   | some y=>rw [q.own _ _ hz] at p;cases p
  have lo:B.le ((B.put d (.cells ((aC 1 (0:Int)).flatMap enc).toArray 3)).put d x3):=fun k y e=>by
   have:k≠d:=by rintro rfl;rw [x] at e;cases e
   rw [B6 _ _ this,B6 _ _ this];exact e
  obtain ⟨g4,S,N⟩:=W.give lo
  have l:∃ e:dI,g4 d=some (.cells [I (c:Int)].toArray e):=by
   obtain ⟨e,he⟩:=r3
   refine ⟨e,?_⟩
   rw [<- N.rest d x]
   exact W.own _ _ he
  obtain ⟨e4,l⟩:=l
  refine Q5 (ty:=30) A4k N V b.symm (y:=(⟨ls c,some ⟨d,0,none⟩,1,1⟩:TV)) rfl dc oo oo ?_
  intro A5 c5 h5 g5 o5 E s5 M _
  have ei:B9 ((c:Int)+1)=((c+1:Nat):Int):=by rw [B5]<;>omega
  rw [ei,b]
  refine ⟨⟨c+1,g5,o5,A5,c5,_,oo,rfl,A0 F (A0 S E),s5,M,by simp [b],?_⟩,by show n-((c+1:Nat):Int).toNat<n-((c:Nat):Int).toNat;omega⟩
  have Q:=R.mono B3m (A0 S E)
  rw [<- b] at Q
  have O:=Q.push (w:=(⟨ls c,some ⟨d,0,none⟩,1,1⟩:TV)) (by
   rw [b]
   refine ⟨rfl,rfl,?_⟩
   right
   refine ⟨_,rfl,fun i v hv=>?_⟩
   rw [F3,aZ]
   refine B7 E ?_
   unfold Heap.cell?
   simp only [l]
   rw [bH];exact hv)
  rw [bC,List.length_singleton,b] at O
  exact O
 ·have j:c=n:=oo
  subst j
  have T:=A0 X (A0 F q.le)
  have pa:cL H Ac (tL ls c):=Vm (by
   rw [B58]
   exact ⟨s,V.slF q.ole,b,(R.mono B3m q.le).congr fun i hi=>(B9t hi).symm⟩)
  refine A3f (gl.mono T) pa u.1 hl h1 hn hs hm1 hm ⟨c-1,oo,u.lead oo⟩ ?_
  intro A6 c6 h6 l6 G
  exact ⟨_,_,_,_,_,rfl,hK _ _ _ (A0 T l6) G⟩
def dC(c:Nat->Rat):Nat->Rat:=fun e=>c (e+1)*((e+1:Nat):Int)
def dL(l:List Nat):List Nat:=(l.filter fun k=>decide (0<k)).map (· - 1)
def B8s{l:List Nat}{k:Nat}:dL (l++[k])=dL l++(if 0<k then [k-1] else []):=by
 unfold dL
 rw [List.filter_append,List.map_append]
 congr 1
 by_cases h:0<k<;>simp [h]
def C55{c:Nat->Rat}{v:Nat}:dC c v≠0↔c (v+1)≠0:=by
 unfold dC
 have:(((v+1:Nat):Int):Rat)≠0:=F6 oo
 constructor
 ·intro h z;rw [z,Rat.zero_mul] at h;exact h rfl
 ·intro h z
  rcases Rat.mul_eq_zero.1 z with z|z<;>contradiction
def C2j(c:Nat->Rat)(n:Nat)(v:Nat):v∈dL (ks c n)↔(∃ i,i<n-1/\i=v)/\dC c v≠0:=by
 unfold dL
 rw [dV,C55]
 constructor
 ·rintro ⟨k,b,rfl⟩
  obtain ⟨d,a⟩:=List.mem_filter.1 b
  have j:0<k:=by simpa using a
  obtain ⟨g,e⟩:=Co.1 d
  exact ⟨⟨k-1,oo,rfl⟩,by rw [show k-1+1=k from oo];exact e⟩
 ·rintro ⟨⟨i,l,rfl⟩,a⟩
  exact ⟨i+1,List.mem_filter.2 ⟨Co.2 ⟨oo,a⟩,by simp⟩,by simp⟩
def B8t{l:List Nat}(h:l.Pairwise (fun a b=>b<a)):(dL l).Pairwise (fun a b=>b<a):=by
 unfold dL
 refine List.pairwise_map.2 ?_
 have c:=h.filter (fun k=>decide (0<k))
 refine List.Pairwise.imp_of_mem (fun {a b} ha hb hab=>?_) c
 have d:0<a:=by simpa using (List.mem_filter.1 ha).2
 have e:0<b:=by simpa using (List.mem_filter.1 hb).2
 omega
end
def Gf{o:aP}{b:Nat}{arr:List bN}{e:dI}(ho:o b=some (.cells arr.toArray e)){i:Nat}{v:bN}(hv:arr[i]? = some v):o.cell? ⟨b,i,none⟩=some v:=by
 unfold Heap.cell?
 simp only [ho]
 rw [bH];exact hv
def A05:prog.cellsOf 3=1/\(prog.info? 3).isSome=true:=Do
def Ud{l:List Nat}{t:Nat}(h:t<l.length):l.take (t+1)=l.take t++[l[t]]:=by
 rw [List.take_add_one,aT h];rfl
section
variable {h g o:aP} {K:VP} {c:Nat->Rat} {bb n ca m:Nat} {A:Option aX} {ls:Nat->List UInt8}
def Xr(gl:Gl h)(pa:cL h A (tU c n))(hn:n<=12)(hs:∀ i,i<n->Sz m (c i))(hm4:4<=m)(hm:m<=1000000)
 (hK:∀ A' c' h',h.le h'->cL h' A' (tU (dC c) (n-1))->K (.tuple #[.agg #[I 1,.slice A' (tU (dC c) (n-1)).length c'],I 0]) h'):
 aR prog 141 #[.agg #[I 1,.slice A (tU c n).length ca],I 0] h K:=by
 refine (fnk func141 [(8,[8,30],[],[.slice none 0 0,I 0])] (own:=[2,4]) (wr:=[62])) ?_
 have az:=A52 c n
 have ay:=Vb c n
 have kb:∀ i,(F:i<(ks c n).length)->(ks c n)[i]<n:=fun i F=>(Co.1 (bI F)).1
 have aa:∀ i,(F:i<(ks c n).length)->Sz m (c (ks c n)[i]):=fun i F=>hs _ (kb i F)
 refine Pv gl.tz pa oo (fun i F=>?_) (fun po A1 c1 h1 l1 er=>⟨_,_,_,_,rfl,?_⟩) (fun av=>absurd (A81 c oo) av)
 ·rw [Nr c n oo]
  have:=X6 (aa i oo)
  show (C0 _).length<=_
  omega
 refine P6 (B4 (fun z=>oo) (fun _=>B4 (fun z=>oo) (fun _=>?_)))
 rw [ay] at er ⊢
 refine ⟨fun L hp=>∃ (t:Nat) (g o:aP) (Ac:Option aX) (cc:Nat) (u:List EV),t<=(ks c n).length/\L=[.slice Ac u.length cc,I (t:Int)]/\h1.le g/\Sep hp g o/\cO o 126 Ac cc u/\u.length=(dL ((ks c n).take t)).length/\Row (ENk (dC c)) g u u.length (fun i=>(dL ((ks c n).take t)).getD i 0),fun L _=>(ks c n).length-(iAt L 1).toNat,⟨0,h1,J8,none,0,[],oo,rfl,B0 _,Sep.refl _,OwnSl.nil,rfl,Row.nil⟩,?_⟩
 rintro Ac nc cc tz hp ⟨t,g1,S,Ac',a4,u,ht,eL,V,s1,ow,r,rr⟩
 obtain ⟨⟨rfl,rfl,rfl⟩,rfl⟩:=sI2 eL
 refine B4 (fun a2=>?_) (fun a7=>?_)
 ·have B:t<(ks c n).length:=oo
  have ei:B9 ((t:Int)+1)=((t+1:Nat):Int):=by rw [B5]<;>omega
  have af:∀ t,(dL ((ks c n).take t)).length<=12:=fun t=>by
   unfold dL
   rw [cD]
   have h1:=bZ (fun k=>decide (0<k)) ((ks c n).take t)
   have h2:((ks c n).take t).length<=(ks c n).length:=by rw [dH];omega
   omega
  have hd:=af t
  obtain ⟨a1,ev,rfl,⟨iq,xs⟩,W⟩:=(er.mono Qn V).at dc B
  rw [Nr c n B] at iq xs
  have a3:=kb t B
  have am:=aa t B
  have E:dL ((ks c n).take (t+1))=dL ((ks c n).take t)++(if 0<(ks c n)[t] then [(ks c n)[t]-1] else []):=by rw [Ud B,B8s]
  have a5:c (ks c n)[t]≠0:=(Co.1 (bI B)).2
  generalize (ks c n)[t]=k at *
  simp only [C2] at iq
  have O:ev.x0=(k:Int)/\ev.x1=0/\ev.x2=0/\ev.x3=0/\ev.x4=0/\ev.x5=0:=⟨xs 0 oo,xs 1 oo,xs 2 oo,xs 3 oo,xs 4 oo,xs 5 oo⟩
  obtain ⟨x0,x1,x2,x3,x4,x5,w⟩:=ev
  obtain ⟨rfl,rfl,rfl,rfl,rfl,rfl⟩:=O
  have M:∀ j v,(enc (⟨(k:Int),0,0,0,0,0,w⟩:EV))[j]? = some v->hp.cell? (aN (aN a1 (t*10)) j)=some v:=fun j v hv=>B7 s1.le (W j v hv)
  refine ⟨a1,rfl,oo,oo,_,_,_,_,_,_,_,_,_,_,_,_,_,_,M 0 _ rfl,M 1 _ rfl,M 2 _ rfl,M 3 _ rfl,M 4 _ rfl,M 5 _ rfl,M 6 _ rfl,M 7 _ rfl,M 8 _ rfl,M 9 _ rfl,?_⟩
  refine Iv (e:=(⟨(k:Int),0,0,0,0,0,w⟩:EV)) fun b hb=>?_
  have Q:=s1.new hb (.cells (enc (⟨(k:Int),0,0,0,0,0,w⟩:EV)).toArray 126)
  have D:(S.put b (.cells (enc (⟨(k:Int),0,0,0,0,0,w⟩:EV)).toArray 126)) b=some (.cells (enc (⟨(k:Int),0,0,0,0,0,w⟩:EV)).toArray 126):=B8 _ _ _
  have ag:∀ R,Ac=some ⟨R,0,none⟩->∀ x,S R=some x->R≠b:=fun R e x O=>by
   rintro rfl
   rw [s1.own _ _ O] at hb;cases hb
  have ar:cO (S.put b (.cells (enc (⟨(k:Int),0,0,0,0,0,w⟩:EV)).toArray 126)) 126 Ac cc u:=ow.keep fun R x e O=>by
   rw [B6 _ _ (ag R e x O)];exact O
  have a0:∀ j,aN (aN ⟨b,0,none⟩ 0) j=⟨b,j,none⟩:=fun j=>by rw [F3,F3,aZ]
  have a6:∀ j,aN (aN ⟨b,0,none⟩ 6) j=⟨b,6+j,none⟩:=fun j=>by rw [F3,F3,aZ]
  have N:∀ j,aN ⟨b,0,none⟩ j=⟨b,j,none⟩:=fun j=>by rw [F3,aZ]
  refine ⟨⟨oo,oo⟩,(k:Int),by rw [a0];exact Q.cell (Gf D rfl),?_⟩
  refine B4 (fun ao=>?_) (fun ao=>?_)
  ·have hk:0<k:=oo
   refine ⟨_,_,_,_,_,_,_,_,by rw [a6];exact Q.cell (Gf D (i:=6) rfl),by rw [a6];exact Q.cell (Gf D (i:=7) rfl),by rw [a6];exact Q.cell (Gf D (i:=8) rfl),by rw [a6];exact Q.cell (Gf D (i:=9) rfl),⟨oo,oo⟩,(k:Int),by rw [a0];exact Q.cell (Gf D rfl),?_⟩
   refine Q.call (Js ⟨oo,oo⟩ ?_)
   intro w3 g3 l3 i3 h3 s3
   refine ⟨_,_,_,_,_,_,_,_,rfl,Q.grow s3 l3,?_⟩
   have aq:Sz m (((k:Nat):Int):Rat):=Sz.int (by
    have:ZB 4 ((k:Nat):Int):=by unfold ZB;omega
    exact this.mono hm4) oo
   have aj:=gl.mono (A0 l1 (A0 V l3))
   refine s3.call (Io aj.tz (⟨iq.num.mono l3,iq.den.mono l3⟩:RQ g3 w (c k)) i3 am aq oo ?_)
   intro C g4 l4 i4 h4 s4
   refine ⟨_,_,_,_,_,_,_,_,rfl,s3.grow s4 l4,?_⟩
   rw [N]
   refine Cw Li (vs:=[.bool C.s,.slice C.A C.n C.c,.bool C.s2,.slice C.A2 C.n2 C.c2]) rfl rfl (by simp [Jz]) s4 D (by show 6+4<=10;omega) ?_
   intro h5 s5
   rw [W7] at s5
   have ab:(S.put b (.cells (enc (⟨(k:Int),0,0,0,0,0,C⟩:EV)).toArray 126)) b=some (.cells (enc (⟨(k:Int),0,0,0,0,0,C⟩:EV)).toArray 126):=B8 _ _ _
   have ai:Sep h5 g4 (S.put b (.cells (enc (⟨(k:Int),0,0,0,0,0,C⟩:EV)).toArray 126)):=s5
   refine ⟨⟨oo,oo⟩,(k:Int),by rw [a0];exact ai.cell (Gf ab rfl),⟨oo,oo⟩,?_⟩
   rw [a0,show B9 ((k:Int)-1)=((k-1:Nat):Int) by rw [B5]<;>omega]
   refine Cw A05 (vs:=[I ((k-1:Nat):Int)]) rfl rfl (by simp [Jz]) ai ab (by show 0+1<=10;omega) ?_
   intro h6 s6
   rw [W7] at s6
   have l:(S.put b (.cells (enc (⟨((k-1:Nat):Int),0,0,0,0,0,C⟩:EV)).toArray 126)) b=some (.cells (enc (⟨((k-1:Nat):Int),0,0,0,0,0,C⟩:EV)).toArray 126):=B8 _ _ _
   have d:Sep h6 g4 (S.put b (.cells (enc (⟨((k-1:Nat):Int),0,0,0,0,0,C⟩:EV)).toArray 126)):=s6
   refine ⟨_,_,_,_,_,_,_,_,_,_,_,_,_,_,by rw [N];exact d.cell (Gf l (i:=0) rfl),by rw [N];exact d.cell (Gf l (i:=1) rfl),by rw [N];exact d.cell (Gf l (i:=2) rfl),by rw [N];exact d.cell (Gf l (i:=3) rfl),by rw [N];exact d.cell (Gf l (i:=4) rfl),by rw [N];exact d.cell (Gf l (i:=5) rfl),d.cell (Gf l (i:=6) rfl),by rw [N];exact d.cell (Gf l (i:=7) rfl),by rw [N];exact d.cell (Gf l (i:=8) rfl),by rw [N];exact d.cell (Gf l (i:=9) rfl),?_⟩
   have ak:cO (S.put b (.cells (enc (⟨((k-1:Nat):Int),0,0,0,0,0,C⟩:EV)).toArray 126)) 126 Ac cc u:=ow.keep fun R x e O=>by
    rw [B6 _ _ (ag R e x O)];exact O
   refine Q5 (ty:=121) X7 d ak rfl (y:=(⟨((k-1:Nat):Int),0,0,0,0,0,C⟩:EV)) rfl dc oo oo ?_
   intro A7 c7 h7 g7 o7 l7 s7 au _
   rw [ei]
   rw [iP hk] at E
   have ah:=A0 l3 (A0 l4 l7)
   refine ⟨⟨t+1,g7,o7,A7,c7,_,oo,by simp,A0 V ah,s7,au,by rw [E];simp [r],?_⟩,by show (ks c n).length-((t+1:Nat):Int).toNat<(ks c n).length-((t:Nat):Int).toNat;omega⟩
   have r7:=rr.mono (Qm (dC c)) ah
   have r8:Row (ENk (dC c)) g7 u u.length (fun j=>(dL ((ks c n).take (t+1))).getD j 0):=r7.congr fun j hj=>by
    rw [E,aE,aE,bO oo]
   refine r8.push (w:=(⟨((k-1:Nat):Int),0,0,0,0,0,C⟩:EV)) ?_
   show ENk (dC c) g7 _ ((dL ((ks c n).take (t+1))).getD u.length 0)
   rw [E,r,aE,cK (aU _)]
   simp only [dT,cQ,dG]
   refine ⟨?_,rfl⟩
   have e9:dC c (k-1)=c k*(((k:Nat):Int):Rat):=by unfold dC;rw [show k-1+1=k from oo]
   rw [e9]
   exact ⟨i4.num.mono l7,i4.den.mono l7⟩
  ·rw [ei]
   rw [iN oo,cT] at E
   exact ⟨⟨t+1,g1,_,Ac,cc,u,oo,rfl,V,Q,ar,by rw [E];exact r,by rw [E];exact rr⟩,by show (ks c n).length-((t+1:Nat):Int).toNat<(ks c n).length-((t:Nat):Int).toNat;omega⟩
 ·have B:t=(ks c n).length:=oo
  subst B
  rw [List.take_length] at r rr
  have lh:=A0 l1 (A0 V s1.le)
  have ad:=B8t (Sn c n)
  have H:=C2j c n
  have ae:∀ i,i<u.length->(dL (ks c n)).getD i 0<n-1:=fun i F=>by
   have:(dL (ks c n)).getD i 0∈dL (ks c n):=by simp [aE,<- r,F]
   obtain ⟨⟨j,hj,e⟩,_⟩:=(H _).1 this
   omega
  have hf:B9c (fun i=>(dL (ks c n)).getD i 0) u.length:=fun p q ax hq=>by
   have:=List.pairwise_iff_getElem.1 ad p q oo oo ax
   simpa [aE,show p<(dL (ks c n)).length from oo,show q<(dL (ks c n)).length from oo] using this
  have an:Inj u.length (fun i=>(dL (ks c n)).getD i 0):=fun i j F hj e=>by
   rcases Nat.lt_trichotomy i j with z|z|z
   ·have:=hf i j z hj
    simp only at e this;omega
   ·exact z
   ·have:=hf j i z F
    simp only at e this;omega
  by_cases h0:u.length=0
  ·have e0:tU (dC c) (n-1)=[]:=by
    have:ks (dC c) (n-1)=[]:=by
     refine List.eq_nil_iff_forall_not_mem.2 fun v hv=>?_
     obtain ⟨a,b⟩:=Co.1 hv
     have:=(H v).2 ⟨⟨v,a,rfl⟩,b⟩
     rw [List.eq_nil_of_length_eq_zero (r.symm.trans h0)] at this
     cases this
    unfold tU
    rw [this];rfl
   rw [e0] at hK
   rw [h0]
   refine Xp ?_
   intro A5 c5 h5 l5 al
   exact ⟨_,_,_,_,_,rfl,hK _ _ _ (A0 lh l5) al⟩
  ·obtain ⟨bb,rfl,rb⟩:=ow.rowB (by intro z;rw [z] at h0;simp at h0)
   have ac:u.length<=12:=by
    rw [r]
    unfold dL
    rw [cD]
    have h1:=bZ (fun k=>decide (0<k)) (ks c n)
    omega
   refine Pu (m:=m+m) (gl.mono (A0 l1 V)).p10 s1 rb rfl rr an oo ac (fun i F=>by have:=ae i F;omega) (fun i F=>?_) oo ?_
   ·have:=ae i F
    generalize (dL (ks c n)).getD i 0=v at *
    refine (hs (v+1) oo).mul (Sz.int ?_ oo)
    have:ZB 4 (((v+1:Nat)):Int):=by unfold ZB;omega
    exact this.mono hm4
   intro A7 c7 h7 f7 l7 X G T
   rw [r] at G T X
   have e7:=B9x G T H
   rw [e7] at X
   have e8:u.length=(tU (dC c) (n-1)).length:=by rw [<- e7,A84,r]
   refine ⟨_,_,_,_,_,rfl,?_⟩
   rw [e8]
   exact hK _ _ _ (A0 l1 (A0 V l7)) X
end
section
variable {h:aP} {K:VP} {A:Option aX} {n cap m w:Nat} {r c:Int} {ls:Nat->List UInt8} {R:Nat->Nat->Rat}
def OwnSl.room{α:Type}[E:Enc α]{o:aP}{b:Nat}{e:dI}{c:Nat}{zx:α}:cO (o.put b (.cells ((aC c zx).flatMap enc).toArray e)) e (some ⟨b,0,none⟩) c ([]:List α):=
 ⟨Nat.zero_le _,.inr ⟨b,_,rfl,B8 _ _ _,by rw [I7,aY],by simp⟩⟩
end
def Br.nt{X Y:Prop}(y:Y):Br (!true) X Y:=y
def C5e{X Y:Prop}(x:X):Br (!false) X Y:=x
structure MOut where
 r:Int
 c:Int
 n:Nat
 f:Nat->List UInt8
 e:Int
def noM(e:Int):MOut:=⟨0,0,0,fun _=>[],e⟩
section
variable {h:aP} {K:VP} {A B:Option aX} {n n2 cap cap2 m w:Nat} {r c r2 c2:Int} {la lb:Nat->List UInt8}
end
structure VV where
 A:Option aX
 n:Nat
 c:Nat
 s:Bool
 B:Option aX
 bn:Nat
 bc:Nat
abbrev VV.v(w:VV):bN:=.agg #[.slice w.A w.n w.c,.bool w.s,.slice w.B w.bn w.bc]
instance:Enc VV:=⟨⟨fun w=>[.slice w.A w.n w.c,.bool w.s,.slice w.B w.bn w.bc],3,fun _=>rfl,fun w v hv=>by
 simp only [List.mem_cons,List.not_mem_nil,or_false] at hv
 rcases hv with rfl|rfl|rfl<;>rfl⟩⟩
section
variable {h:aP} {K:VP} {A B:Option aX} {n cap m w:Nat} {f f2:Nat->Rat}
end
section
variable {h:aP} {K:VP} {A:Option aX} {cap m rows cols:Nat} {E:Nat->Rat}
end
section
variable {h:aP} {K:VP} {A B:Option aX} {n n2 cap cap2 m:Nat} {r c r2 c2:Int} {la lb:Nat->List UInt8} {w:QV} {q:Rat}
end
section
variable {h:aP} {K:VP} {A B:Option aX} {n w cap cap2 m:Nat} {f f2:Nat->Rat} {R:Nat->Nat->Rat}
end
structure VOut where
 n:Nat
 f:Nat->List UInt8
 e:Int
section
variable {h:aP} {K:VP} {A B:Option aX} {n n2 cap cap2 m:Nat} {r c:Int} {la lx:Nat->List UInt8}
end
section
variable {h:aP} {K:VP} {A B:Option aX} {n n2 cap cap2 m:Nat} {r c:Int} {la lx:Nat->List UInt8}
end
section
variable {h:aP} {K:VP} {A B:Option aX} {n n2 cap cap2 m:Nat} {r c r2 c2:Int} {la lb:Nat->List UInt8} {E:Nat->Rat}
end
def X4(E:Nat->Rat)(n:Nat):Nat->Rat:=fun k=>if k%(n+n)<n then E (k/(n+n)*n+k%(n+n)) else if k%(n+n)=n+k/(n+n) then 1 else 0
def A4b(E:Nat->Rat){n i j:Nat}(hj:j<n+n):X4 E n (i*(n+n)+j)=if j<n then E (i*n+j) else if j=n+i then 1 else 0:=by
 have b:(i*(n+n)+j)/(n+n)=i:=by rw [dU,Nat.add_mul_div_right _ _ o,Nat.div_eq_of_lt hj,aZ]
 have a:(i*(n+n)+j)%(n+n)=j:=by rw [dU,dK,Nat.mod_eq_of_lt hj]
 unfold X4
 grind
def B25{E:Nat->Rat}{n m:Nat}(hm:1<=m)(hs:∀ i,i<n*n->Sz m (E i)):∀ i,i<n*(n+n)->Sz m (X4 E n i):=by
 intro i b
 have a:i/(n+n)<n:=Nat.div_lt_of_lt_mul gz0
 unfold X4
 split
 ·rename_i h;exact hs _ (Qb a h)
 ·split
  ·exact ⟨ZB.one hm,ZB.one hm⟩
  ·exact Sz.zero hm
def B1u(E:Nat->Rat)(n:Nat):Prop:=(elE (X4 E n) n (n+n) n).cs.length=n
def A3o(E:Nat->Rat)(n:Nat):Nat->Nat->Rat:=fun i j=>(elE (X4 E n) n (n+n) n).R i (n+j)
def C6l(r c:Int)(n:Nat)(la:Nat->List UInt8)(o:MOut):Prop:=
 (¬ Mx r c n la/\o=noM 1)\/(Mx r c n la/\r≠c/\o=noM 4)\/(∃ q,MOk r c n la q q/\((B1u (rvs la) q/\o=⟨r,r,q*q,A6j (A3o (rvs la) q) q,0⟩)\/(¬ B1u (rvs la) q/\o=noM 7)))
section
variable {h:aP} {K:VP} {A:Option aX} {n cap m:Nat} {r c:Int} {la:Nat->List UInt8}
def Ye(gl:Gl h)(ra:cU SSr h A n la)(hn:n<=1000000)(hl:∀ i,i<n->(la i).length<=140737488351232)(hs:∀ i,i<n->Sz m (rv (la i)))(hm1:1<=m)(hb:∀ q,MOk r c n la q q->2*(3^q*bnd (q+q) m)+1<=40000000)
 (hK:∀ o,C6l r c n la o->∀ A' cap' h',h.le h'->cU SSr h' A' o.n o.f->K (.tuple #[B84 o.r o.c A' o.n cap',I o.e]) h'):aR prog 143 #[B84 r c A n cap] h K:=by
 refine (fnk func143 [(9,[7,35],[],[.slice none 0 0,I 0]),(22,[14,80],[],[.slice none 0 0,I 0]),(25,[14,89],[],[.slice none 0 0,I 0])] (own:=[1,2,12,17]) (wr:=[210])) ?_
 refine A6b gl ra hn hl (fun rows cols mk b1 p own=>?_) (fun a7 p l1=>⟨_,_,_,_,rfl,C5e (hK (noM 1) (.inl ⟨a7,rfl⟩) none 0 p l1 RowV.nil)⟩)
 have l1:=own.le
 refine ⟨_,_,_,_,rfl,Br.nt (D6 (fun e=>hK (noM 4) (.inr (.inl ⟨⟨_,_,mk⟩,e,rfl⟩)) none 0 p l1 RowV.nil) (fun e=>?_))⟩
 obtain rfl:rows=cols:=by have:=mk.er;have:=mk.ec;omega
 have aq:=fun x=>hK ⟨r,r,rows*rows,A6j (A3o (rvs la) rows) rows,0⟩ (.inr (.inr ⟨rows,mk,.inl ⟨x,rfl⟩⟩))
 have bn:=fun x=>hK (noM 7) (.inr (.inr ⟨rows,mk,.inr ⟨x,rfl⟩⟩))
 have bz:=hb rows mk
 have:=mk.r1;have:=mk.r2
 obtain ⟨rfl,rfl,_,_,_,_,rfl,_⟩:=id mk
 clear e
 have ba:=own.vis Bj
 have b0:rows*rows<=64*64:=cJ oo oo
 have bw:rows*(rows+rows)<=64*128:=cJ oo oo
 refine ⟨fun L hp=>∃ (k:Nat) (g o:aP) (xs:List QV) (A':Option aX) (F:Nat),k<=rows/\L=[.slice A' (k*(rows+rows)) F,I (k:Int)]/\p.le g/\Sep hp g o/\cO o 83 A' F xs/\xs.length=k*(rows+rows)/\Row RQr g xs (k*(rows+rows)) (X4 (rvs la) rows),fun L _=>rows-(iAt L 1).toNat,
  ⟨0,p,J8,[],none,0,oo,gz0,B0 _,Sep.refl p,OwnSl.nil,by simp,by rw [Nat.zero_mul];exact Row.nil⟩,?_⟩
 rintro wA wn wc z hp ⟨k,g,o,xs,A',F,hk,eL,lg,s,ow,D,rr⟩
 obtain ⟨⟨rfl,rfl,rfl⟩,rfl⟩:=sI2 eL
 refine B4 (fun ap=>?_) (fun bk=>?_)
 ·have C:k<rows:=oo
  have h2:(k+1)*rows<=rows*rows:=aV _ C
  have W:(k+1)*rows=k*rows+rows:=gz0
  have h4:(k+1)*(rows+rows)=k*(rows+rows)+rows+rows:=gz0
  have h5:(k+1)*(rows+rows)<=rows*(rows+rows):=aV _ C
  have e0:B9 ((k:Int)+1)=((k+1:Nat):Int):=B5 oo oo
  have e1:B9 ((k:Int)*(rows:Int))=((k*rows:Nat):Int):=by rw [<- cF];exact Bf oo
  have e2:B9 (B9 ((k:Int)+1)*(rows:Int))=(((k+1)*rows:Nat):Int):=by rw [e0,<- cF];exact Bf oo
  rw [e1,e2,e0]
  refine ⟨⟨oo,oo⟩,⟨oo,oo⟩,?_⟩
  simp only [aL]
  have e5:(k+1)*rows-k*rows=rows:=oo
  rw [e5]
  have row:cU RQr p (U3 (some ⟨b1,0,none⟩) (rows*rows) (k*rows) 4) rows (fun j=>rvs la (k*rows+j)):=ba.cut (c:=rows*rows) (l:=k*rows) (k:=rows) oo (aU _)
  obtain ⟨ys,sy,a,qy⟩:=row
  refine OwnSl.app (ty:=54) B57 s ow D.symm a.symm gz0 (sy.mono (A0 lg s.le)) oo oo ?_
  intro A2 c2 b5 g2 o2 l2 s2 bf _
  have am:=A0 lg l2
  have ad:(xs++ys).length=k*(rows+rows)+rows:=gz0
  have r1:Row RQr g2 (xs++ys) (k*(rows+rows)+rows) (X4 (rvs la) rows):=by
   refine Row.app D (rr.mono Bj l2) ((qy.mono Bj am).congr fun j hj=>?_)
   rw [A4b (rvs la) oo,iP hj]
  refine ⟨_,_,_,rfl,?_⟩
  rw [D]
  refine D8 B57 (zx:=Qg) rfl oo oo oo oo ?_
  intro Q ab
  simp only [aL]
  have ob:∀ q x,o2 q=some x->q≠Q:=by
   rintro q x e rfl
   rw [s2.own q x e] at ab;cases ab
  refine ⟨_,_,_,rfl,Sep.call (s2.new ab _) (Js ⟨oo,oo⟩ ?_)⟩
  intro wd g4 l4 a3 b6 s4
  have one:((1:Int):Rat)=1:=rfl
  rw [one] at a3
  refine ⟨_,_,_,_,_,_,_,_,rfl,_,rfl,oo,oo,?_⟩
  refine E7 Wz (y:=wd) rfl s4 RowX.mk (i:=k) gz0 ?_
  intro b2 o5 x5 a9 s5 bo
  have a8:∀ k,k≠Q->o5 k=o2 k:=fun k hk=>by rw [a9,B6 _ _ hk,B6 _ _ hk]
  have r0:Row RQr g4 (aC rows Qg) rows (fun _=>0):=fun i hi=>⟨Qg,gz0,RQ.zero⟩
  have ru:Row RQr g4 ((aC rows Qg).set k wd) rows (fun i=>if i=k then 1 else 0):=r0.upd gz0 a3
  obtain ⟨g8,l8,s8⟩:=s5.give (o2:=o2) (fun k x e=>gz0)
  have be:o2 Q=none:=by
   cases hx:o2 Q with
   | none=>rfl
   | some y=>grind
  have bh:RowX g8 Q ((aC rows Qg).set k wd):=bo.keep fun x e=>by rw [<- s8.rest Q be];exact s5.own Q x e
  have bm:((aC rows Qg).set k wd).length=rows:=gz0
  generalize (aC rows Qg).set k wd=us at *
  refine OwnSl.app (ty:=54) B57 s8 bf ad.symm bm.symm gz0 ((bh.rowB.slF (B0 _)).mono s8.le) oo oo ?_
  intro A9 c9 h9 g9 o9 l9 s9 bc _
  rw [ad]
  have av:=A0 l4 (A0 l8 l9)
  refine ⟨_,_,_,rfl,⟨k+1,g9,o9,_,A9,c9,oo,by rw [h4],A0 am av,s9,bc,gz0,?_⟩,?_⟩
  ·rw [h4]
   refine Row.app ad (r1.mono Bj av) ((ru.mono Bj (A0 l8 l9)).congr fun j hj=>?_)
   have ej:k*(rows+rows)+rows+j=k*(rows+rows)+(rows+j):=oo
   rw [ej,A4b (rvs la) (i:=k) (j:=rows+j) oo,iN (show ¬ rows+j<rows from oo)]
   grind
  ·show rows-((k+1:Nat):Int).toNat<rows-(k:Int).toNat
   omega
 have C:k=rows:=oo
 subst C
 have ew:B9 (2*(k:Int))=((k+k:Nat):Int):=by rw [B5]<;>omega
 rw [ew]
 have a4:=A0 l1 (A0 lg s.le)
 have rq:cU RQr hp wA (k*(k+k)) (X4 (rvs la) k):=⟨xs,ow.slF s.ole,D,rr.mono Bj s.le⟩
 have ay:=B25 hm1 hs
 refine A2s (E:=X4 (rvs la) k) (cc:=k) (m:=m) (gl.mono a4) rq (by have:=ow.1;omega) oo oo oo oo oo ay oo ?_
 intro T h2 N l2 e1 e2
 refine ⟨_,rfl,FCall.mono N ?_⟩
 rintro r3 W ⟨g3,o3,A3,br,w,l3,t3,bg,bi,az,rfl⟩
 refine ⟨_,_,_,_,_,_,_,_,rfl,?_⟩
 have X:=C2b (E:=X4 (rvs la) k) (rows:=k) (cols:=k+k) (c:=k) ay oo
 have a6:=B45 (X4 (rvs la) k) k (k+k) k (bnd (k+k) m)
 have ag:=B8g (X4 (rvs la) k) k (k+k) k
 have O:(elE (X4 (rvs la) k) k (k+k) k).cs.length=k->∀ i j,i<k->j<k->Rat.divInt ((elP (X4 (rvs la) k) k (k+k) k).M i (k+j)) (elP (X4 (rvs la) k) k (k+k) k).last=A3o (rvs la) k i j:=fun ak i j hi hj=>C2d (X4 (rvs la) k) oo hi oo (.inl oo)
 have ak:(elE (X4 (rvs la) k) k (k+k) k).cs.length<=k/\(elE (X4 (rvs la) k) k (k+k) k).cs.length<=k:=B8i _ k k
 rw [C53 _ oo]
 have ac:h.le W:=A0 a4 (A0 l3 t3.sep.le)
 refine B4 (fun ap=>bn (fun hx=>by unfold B1u at hx;omega) none 0 W ac RowV.nil) (fun bk=>?_)
 have B:(elE (X4 (rvs la) k) k (k+k) k).cs.length=k:=oo
 have ax:=O B
 have ae:=aq B
 clear O
 generalize elP (X4 (rvs la) k) k (k+k) k=st at *
 have ah:=X.M
 have V:=X.last
 clear X
 generalize 3^st.cs.length*bnd (k+k) m=bb at ah V a6
 have iw:ZIr W w st.last:=P2 _ _ _ _ t3.sep.le az
 have u:∀ g',W.le g'->∃ gT,Tab g' gT o3 T st.M st.S:=fun g' l=>by
  obtain ⟨gT,l',s'⟩:=t3.sep.after l
  exact ⟨gT,t3.next s' l'⟩
 clear t3 bg bi az N
 have a5:B9 ((k:Int)*(k:Int))=((k*k:Nat):Int):=by rw [<- cF];exact Bf oo
 rw [a5]
 refine D8 B57 (zx:=Qg) rfl oo oo oo oo ?_
 intro b4 bp
 simp only [aL]
 refine ⟨_,_,_,rfl,fun L hp=>∃ (i:Nat) (g o:aP) (xs:List QV) (A':Option aX) (F:Nat),i<=k/\L=[.slice A' (i*k) F,I (i:Int)]/\W.le g/\Sep hp g o/\cO o 83 A' F xs/\xs.length=i*k/\Row RQr g xs (i*k) (fun t=>A3o (rvs la) k (t/k) (t%k)),fun L _=>k-(iAt L 1).toNat,
  ⟨0,W,J8.put b4 _,[],some ⟨b4,0,none⟩,k*k,oo,gz0,B0 _,F1 bp,OwnSl.room,by simp,by rw [Nat.zero_mul];exact Row.nil⟩,?_⟩
 rintro vA vn vc z bl ⟨i,g5,o5,al,A5,c5,hi,eL,b,s5,an,H,a1⟩
 obtain ⟨⟨rfl,rfl,rfl⟩,rfl⟩:=sI2 eL
 refine B4 (fun ap=>?_) (fun a0=>?_)
 ·have a2:i<k:=oo
  have ao:(i+1)*k=i*k+k:=gz0
  have bv:(i+1)*k<=k*k:=aV _ a2
  obtain ⟨gT,tT⟩:=u g5 b
  refine s5.call (Eu tT (i:=i) oo ?_)
  intro h6 s6
  have b7:=A0 b s6.le
  rw [e2]
  refine ⟨_,_,_,rfl,⟨oo,oo⟩,?_⟩
  simp only [aL,Nat.add_sub_cancel]
  refine ⟨fun L hp=>∃ (j:Nat) (g o:aP) (xs:List QV) (A':Option aX) (F:Nat),j<=k/\L=[.slice A' (i*k+j) F,I (j:Int)]/\g5.le g/\Sep hp g o/\cO o 83 A' F xs/\xs.length=i*k+j/\Row RQr g xs (i*k+j) (fun t=>A3o (rvs la) k (t/k) (t%k)),fun L _=>k-(iAt L 1).toNat,
   ⟨0,g5,o5,al,_,_,oo,rfl,B0 _,s6,an,H,a1⟩,?_⟩
  rintro qA qn qc z bx ⟨j,g7,o7,ys,A7,c7,hj,eL,d,s7,au,a,ai⟩
  obtain ⟨⟨rfl,rfl,rfl⟩,rfl⟩:=sI2 eL
  refine B4 (fun bt=>?_) (fun a0=>?_)
  ·have aa:j<k:=oo
   obtain ⟨bu,af⟩:=u g7 (A0 b d)
   obtain ⟨wv,zv,c0,c1⟩:=af.at (i:=i) (j:=k+j) oo oo
   rw [D4,D4,e2] at c0 c1
   have bd:k<T.cE-i*(k+k):=by
    have p:=af.cE
    rw [e1,e2] at p
    grind
   rw [V1 bd]
   have aj:∀ x,aN (aN (aN ⟨T.bE,i*(k+k)*2,none⟩ (k*2)) (j*2)) x=⟨T.bE,i*(k+k)*2+(k+j)*2+x,none⟩:=fun x=>by rw [D4,D4,D4];grind
   refine ⟨_,rfl,oo,oo,_,_,_,_,by simp only [aL];rw [aj];exact B7 s7.le c0,by simp only [aL];rw [aj];exact B7 s7.le c1,?_⟩
   refine s7.call (Q3 (gl.mono (A0 ac (A0 b d))).tz (P2 _ _ _ _ af.sep.le zv) (P2 _ _ _ _ (A0 b d) iw) (ah _ _ oo oo) V oo ?_)
   intro w9 g9 l9 i9 h9 s9
   rw [ax i j a2 aa] at i9
   refine ⟨_,_,_,_,_,_,_,_,rfl,?_⟩
   refine Q5 (ty:=54) B57 s9 au a.symm (y:=w9) rfl dc oo oo ?_
   intro A8 c8 h8 g8 o8 l8 s8 bj _
   rw [a,wiS j oo]
   refine ⟨⟨j+1,g8,o8,_,A8,c8,oo,by rw [Nat.add_assoc],A0 d (A0 l9 l8),s8,bj,gz0,?_⟩,?_⟩
   ·have rB:=Row.push (R:=RQr) (g:=g8) (xs:=ys) (f:=fun t=>A3o (rvs la) k (t/k) (t%k)) (by rw [a];exact ai.mono Bj (A0 l9 l8)) (w:=w9) (by
     show RQ g8 w9 (A3o (rvs la) k (ys.length/k) (ys.length%k))
     rw [a,dU (i*k) j,dK,Nat.mod_eq_of_lt aa,Nat.add_mul_div_right _ _ oo,Nat.div_eq_of_lt aa,aZ]
     exact Bj _ _ _ _ l8 i9)
    grind
   ·show k-((j+1:Nat):Int).toNat<k-(j:Int).toNat
    omega
  ·have:j=k:=oo
   subst this
   rw [wiS i oo,<- ao]
   rw [<- ao] at a ai
   refine ⟨⟨i+1,g7,o7,ys,qA,qc,oo,rfl,A0 b d,s7,au,a,ai⟩,?_⟩
   show j-((i+1:Nat):Int).toNat<j-(i:Int).toNat
   omega
 ·have:i=k:=oo
  subst this
  have ar:=A0 ac (A0 b s5.le)
  have bq:cU RQr bl vA (i*i) (fun t=>A3o (rvs la) i (t/i) (t%i)):=⟨al,an.slF s5.ole,H,a1.mono Bj s5.le⟩
  refine A3k (m:=bb) (gl.mono ar) bq oo (fun t ht=>?_) oo ?_
  ·have p:t/i<i:=Nat.div_lt_of_lt_mul ht
   have h2:=Nat.mod_lt t (show 0<i from oo)
   rw [<- ax _ _ p h2]
   exact At ag (ah _ _ oo oo) V
  intro b9 h9 G
  exact ⟨_,_,_,_,_,rfl,ae _ _ h9 (A0 ar G.le) (G.vis Jc)⟩
end
def Nw{a b c d:Rat}(h1:a<=b)(h2:c<=d):a+c<=b+d:=gz0
def B55{es:List Int}{f:Nat->Rat × Rat}{x:Nat->Rat}{c:Rat}: ∀ k,(∀ j,j<k->(f j).1<=x j/\x j<=(f j).2)->(tmE es f c k).1<=tmV es x c k/\tmV es x c k<=(tmE es f c k).2
 | 0,_=>⟨aQ,aQ⟩
 | k+1,h=>by
  obtain ⟨h1,h2⟩:=B55 k fun j g=>h j o
  obtain ⟨e,b⟩:=h k o
  obtain ⟨d,a⟩:=B7q (es.getD k 0).toNat e b
  exact Yb h1 h2 d a
def B62{ts:List K9}{f:Nat->Rat × Rat}{x:Nat->Rat}{n:Nat}(h:∀ j,j<n->(f j).1<=x j/\x j<=(f j).2):∀ i,(evE ts f n i).1<=evV ts x n i/\evV ts x n i<=(evE ts f n i).2
 | 0=>⟨aQ,aQ⟩
 | i+1=>by
  obtain ⟨h1,h2⟩:=B62 h i
  obtain ⟨b,a⟩:=B55 (es:=(tm ts i).2) (c:=rv (tm ts i).1) n h
  exact ⟨Nw h1 b,Nw h2 a⟩
def B63(ts:List K9)(f:Nat->Rat × Rat)(n:Nat):∀ i,(evE ts f n i).1<=(evE ts f n i).2
 | 0=>aQ
 | i+1=>Nw (B63 ts f n i) (A7x _ f _ n)
end Go.Proofs.YtbgkfnjmcjfokaaGreatDoor
namespace Go.Proofs.YtbgkfnjmcjfokaaGreatDoor
set_option maxRecDepth 20000
def A99{q:Rat}(h:(C0 q).length<=4):(q.den=1/\q.num.natAbs<10000)\/(q.num.natAbs<100/\q.den<100):=by
 have b:1<=(P5 q.num.natAbs).length:=List.length_pos_iff.2 (Hq _)
 have d:1<=(P5 q.den).length:=List.length_pos_iff.2 (Hq _)
 have c:(P5 q.num.natAbs).length<=(Dn q.num).length:=by unfold Dn;split<;>simp
 by_cases a:q.den=1
 ·left
  refine ⟨a,?_⟩
  unfold C0 at h
  rw [bC] at h
  exact (V5 (k:=4) o).1 o
 ·right
  unfold C0 at h
  rw [iN a,bC,aW] at h
  exact ⟨(V5 (k:=2) o).1 o,(V5 (k:=2) o).1 o⟩
def B6f{q:Rat}(h:(C0 q).length<=4){k:Nat}(hk:k<=4):(C0 (q*(((k:Nat):Int):Rat))).length<=8:=by
 have e:=Og q (((k:Nat):Int):Rat)
 have c:=(Tg (a:=q.num*((((k:Nat):Int):Rat)).num) (b:=(q.den:Int)*(((((k:Nat):Int):Rat)).den:Int)) (by
  rw [Rat.den_intCast];have:=q.den_pos;simp;omega))
 rw [<- e] at c
 rw [Rat.num_intCast,Rat.den_intCast] at c
 obtain ⟨m,l⟩:=c
 have n:(q*(((k:Nat):Int):Rat)).num.natAbs<=q.num.natAbs*4:=by
  refine cZ m ?_
  rw [cV]
  exact cW _ o
 have i:(q*(((k:Nat):Int):Rat)).den<=q.den:=by simpa using l
 have dp:=(q*(((k:Nat):Int):Rat)).den_pos
 generalize q*(((k:Nat):Int):Rat)=r at *
 have d:∀ {j:Nat},(P5 r.num.natAbs).length<=j->(Dn r.num).length<=j+1:=fun {j} hj=>by
  unfold Dn
  split
  ·rw [aW];omega
  ·omega
 rcases A99 h with ⟨a,b⟩|⟨a,b⟩
 ·have g:r.den=1:=o
  unfold C0
  rw [iP g,cT]
  have:=d ((V5 (k:=5) o).2 (show r.num.natAbs<10^5 from o))
  omega
 ·have p:=d ((V5 (k:=3) o).2 (show r.num.natAbs<10^3 from o))
  have s:=(V5 (k:=2) o).2 (show r.den<10^2 from o)
  unfold C0
  rw [bC]
  split
  ·simp;omega
  ·rw [aW];omega
def B5u(E:Nat->Rat):B1u E 1↔E 0≠0:=by
 have a:mtx (X4 E 1) 2 0 0=E 0:=by simp [mtx,X4]
 unfold B1u elE
 show (Ue 1 0 ⟨mtx (X4 E 1) 2,[],1⟩).cs.length=1↔_
 unfold Ue A8j
 simp only [cC,dR,fnd,a,Nat.lt_irrefl]
 by_cases h:E 0=0
 ·simp [h]
 ·simp [h]
def B8a(E:Nat->Rat)(h:E 0≠0):A3o E 1 0 0=1/E 0:=by
 have a:mtx (X4 E 1) 2 0 0=E 0:=by simp [mtx,X4]
 have b:mtx (X4 E 1) 2 0 1=1:=by simp [mtx,X4]
 unfold A3o elE
 show (Ue 1 0 ⟨mtx (X4 E 1) 2,[],1⟩).R 0 (1+0)=_
 unfold Ue A8j
 simp only [cC,dR,fnd,a]
 simp [h,Ot,xch,a,b]
def B94{ts:List K9}{f:Nat->Rat × Rat}(s:SmE ts f 1):∀ i,i<=ts.length->Sz (1+i*38520) (evE ts f 1 i).1/\Sz (1+i*38520) (evE ts f 1 i).2:=by
 intro i
 induction i with
 | zero=>intro _;exact ⟨Sz.zero o,Sz.zero o⟩
 | succ i ih=>
  intro g
  obtain ⟨d,c⟩:=ih o
  obtain ⟨b,a⟩:=s.tm (i:=i) o 1 (aU _)
  have e:1+(i+1)*38520=1+i*38520+38519+1:=o
  rw [e]
  exact ⟨d.add (b.mono dc),c.add (a.mono dc)⟩
def evQ(c:Nat->Rat)(p q:Rat):Nat->Rat × Rat
 | 0=>(0,0)
 | n+1=>if c n=0 then evQ c p q n else (L7 (c n) (c n) (Ci p q n) (Cj p q n)+(evQ c p q n).1,L8 (c n) (c n) (Ci p q n) (Cj p q n)+(evQ c p q n).2)
def B42(t:K9)(ts:List K9)(f:Nat->Rat × Rat)(n:Nat):∀ i,evE (t::ts) f n (i+1)=((tmE t.2 f (rv t.1) n).1+(evE ts f n i).1,(tmE t.2 f (rv t.1) n).2+(evE ts f n i).2):=by
 intro i
 induction i with
 | zero=>
  show (0+_,0+_)=_
  simp only [evE,tm,List.getD_cons_zero]
  congr 1<;>grind
 | succ i ih=>
  rw [evE,ih]
  have e:tm (t::ts) (i+1)=tm ts i:=by simp [tm]
  rw [e]
  simp only [evE]
  congr 1<;>grind
def A3t(c:Nat->Rat)(p q:Rat):∀ n,evE (tU c n) (bxQ [(C0 p,C0 q)]) 1 (tU c n).length=evQ c p q n:=by
 have a:bxQ [(C0 p,C0 q)] 0=(p,q):=by
  show (rv (C0 p),rv (C0 q))=_
  rw [C2,C2]
 intro n
 induction n with
 | zero=>rfl
 | succ n ih=>
  by_cases h:c n=0
  ·have e:tU c (n+1)=tU c n:=by unfold tU;rw [ks,iP h]
   rw [e,ih,evQ,iP h]
  ·have e:tU c (n+1)=(C0 (c n),[(n:Int)])::tU c n:=by unfold tU;rw [ks,iN h];rfl
   rw [e,aW,B42,ih,evQ,iN h]
   have:tmE [(n:Int)] (bxQ [(C0 p,C0 q)]) (rv (C0 (c n))) 1=(L7 (c n) (c n) (Ci p q n) (Cj p q n),L8 (c n) (c n) (Ci p q n) (Cj p q n)):=by
    show (L7 (rv (C0 (c n))) (rv (C0 (c n))) (Ci (bxQ [(C0 p,C0 q)] 0).1 (bxQ [(C0 p,C0 q)] 0).2 n) (Cj (bxQ [(C0 p,C0 q)] 0).1 (bxQ [(C0 p,C0 q)] 0).2 n),L8 (rv (C0 (c n))) (rv (C0 (c n))) (Ci (bxQ [(C0 p,C0 q)] 0).1 (bxQ [(C0 p,C0 q)] 0).2 n) (Cj (bxQ [(C0 p,C0 q)] 0).1 (bxQ [(C0 p,C0 q)] 0).2 n))=_
    rw [a,C2]
   rw [this]
def B0e(c:Nat->Rat)(p q:Rat)(n:Nat):(evQ c p q n).1<=(evQ c p q n).2:=by
 rw [<- A3t];exact B63 _ _ _ _
def B0f{c:Nat->Rat}{p q x:Rat}{n:Nat}(h1:p<=x)(h2:x<=q):(evQ c p q n).1<=sQ c x n/\sQ c x n<=(evQ c p q n).2:=by
 have:=B62 (ts:=tU c n) (f:=bxQ [(C0 p,C0 q)]) (x:=fun _=>x) (n:=1) (fun j a=>by
  have:j=0:=o
  subst this
  show rv (C0 p)<=x/\x<=rv (C0 q)
  rw [C2,C2];exact ⟨h1,h2⟩) (tU c n).length
 rw [B60,A3t] at this
 exact this
def A54{a b m Y v gl gh:Rat}{L H:Rat}(hab:a<=b)(hg:gl<=gh)
 (hL:L<=(m-Y*v)+L7 (1+L7 (L7 Y Y gl gh) (L8 Y Y gl gh) (-1) (-1)) (1+L8 (L7 Y Y gl gh) (L8 Y Y gl gh) (-1) (-1)) (a + -m) (b + -m))
 (hH:(m-Y*v)+L8 (1+L7 (L7 Y Y gl gh) (L8 Y Y gl gh) (-1) (-1)) (1+L8 (L7 Y Y gl gh) (L8 Y Y gl gh) (-1) (-1)) (a + -m) (b + -m)<=H):
 ∀ g x,gl<=g->g<=gh->a<=x->x<=b->L<=m-Y*v+(1-Y*g)*(x-m)/\m-Y*v+(1-Y*g)*(x-m)<=H:=by
 intro g x j i k p
 have e:=Yb (a:=Y) (b:=Y) (x:=Y) aQ aQ j i
 have l:=Yb (c:= -1) (d:= -1) (y:= -1) e.1 e.2 aQ aQ
 have n:=Yb (a:=1+L7 (L7 Y Y gl gh) (L8 Y Y gl gh) (-1) (-1)) (b:=1+L8 (L7 Y Y gl gh) (L8 Y Y gl gh) (-1) (-1)) (x:=1-Y*g) (c:=a + -m) (d:=b + -m) (y:=x-m) gz0 gz0 gz0 gz0
 grind
structure PV where
 v:Int
 A:Option aX
 n:Nat
 c:Nat
instance:Enc PV:=⟨⟨fun p=>[I p.v,.slice p.A p.n p.c],2,fun _=>rfl,fun p v hv=>by simp at hv;rcases hv with rfl|rfl<;>rfl⟩⟩
def B3t:(prog.info? 3).map (·.zero)=some (some (I 0)):=by kernel_rfl
def Sys(h:aP)(S:Option aX)(c:Nat->Rat)(n:Nat):Prop:=∃ A tc,SlV h S [I 1,.slice A (tU c n).length tc]/\cL h A (tU c n)
def Sys.mono{h h':aP}{S:Option aX}{c:Nat->Rat}{n:Nat}(s:Sys h S c n)(l:h.le h'):Sys h' S c n:=by
 obtain ⟨A,a,x,y⟩:=s
 exact ⟨A,a,x.mono l,y.mono l⟩
section
variable {h:aP} {K:VP} {S B:Option aX} {c:Nat->Rat} {n sc bc m:Nat} {lo hi:List UInt8} {p q:Rat}
def Px(gl:Gl h)(sy:Sys h S c n)(hn:n<=12)(hl:∀ i,i<n->(C0 (c i)).length<=140737488351232)(hK:∀ h',h.le h'->K (.bool true) h'):aR prog 70 #[.slice S 1 sc] h K:=by
 refine (fnk func70) ?_
 refine T7 B3t ?_
 intro b u
 have s:Sep (h.put b (.cells #[I 0] 3)) h (J8.put b (.cells #[I 0] 3)):=F1 u
 refine ⟨_,rfl,?_⟩
 refine Cw A05 (vs:=[I 1]) rfl rfl (by simp [Jz]) s (B8 _ _ _) (arr:=[I 0]) dc ?_
 intro g m
 have k:g.cell? ⟨b,0,none⟩=some (I 1):=m.cell (Gf (B8 _ _ _) rfl)
 have e:h.le g:=m.le
 refine ⟨_,k,B4 (fun z=>o) (fun _=>⟨_,k,B4 (fun z=>o) (fun _=>?_)⟩)⟩
 refine (fnk func157) ?_
 refine (fnk func226 [(2,[8],[],[I 0])]) ?_
 obtain ⟨A,B,q,r⟩:=sy.mono e
 obtain ⟨a,rfl,c0,c1⟩:=U2 q
 refine ⟨fun L l=>(L=[I 0]\/L=[I 1])/\l=g,fun L _=>(1-iAt L 0).toNat,⟨.inl rfl,rfl⟩,?_⟩
 rintro t l ⟨d|d,rfl⟩
 ·obtain rfl:t=0:=by simpa using d
  refine B4 (fun _=>?_) (fun x=>o)
  refine ⟨a,rfl,o,o,_,_,_,_,c0,c1,?_⟩
  refine (fnk func158 (own:=[2])) ?_
  have w:=A52 c n
  have lt:=Vb c n
  refine Hb (gl.mono e).tz r o (fun i y=>?_) (fun _=>⟨_,rfl,P6 ⟨_,k,?_⟩⟩) (fun j=>absurd (A81 c o) j)
  ·rw [Nr c n o]
   exact hl _ (Co.1 (bI o)).1
  ·refine ⟨_,rfl,?_⟩
   rw [Jq]
   refine Br.of (fun z=>by simp at z) (fun _=>⟨⟨.inr rfl,rfl⟩,W8⟩)
 ·obtain rfl:t=1:=by simpa using d
  refine B4 (fun p=>o) (fun _=>⟨_,rfl,_,rfl,?_⟩)
  exact hK _ e
def Hi(gl:Gl h)(sy:Sys h S c n)(hn:n<=12)(hl:∀ i,i<n->(C0 (c i)).length<=140737488351232)(bx:SlV h B [.string (bs (C0 p)),.string (bs (C0 q))])(hp:Sz m p)(hq:Sz m q)(hm:m<=1000000)(hpq:p<=q)(hK:∀ h',h.le h'->K (I 0) h'):aR prog 26 #[.slice S 1 sc,.slice B 1 bc] h K:=by
 refine (fnk func26 [(4,[12],[],[I 0])] (own:=[6])) ?_
 refine Px gl sy hn hl ?_
 intro l g
 obtain ⟨a,rfl,c0,c1⟩:=U2 (bx.mono g)
 refine ⟨_,rfl,P6 ⟨fun L hp=>(L=[I 0]\/L=[I 1])/\hp=l,fun L _=>(1-iAt L 0).toNat,⟨.inl rfl,rfl⟩,?_⟩⟩
 rintro t j ⟨d|d,rfl⟩
 ·obtain rfl:t=0:=by simpa using d
  refine B4 (fun _=>?_) (fun r=>o)
  refine ⟨a,rfl,o,o,_,_,c0,c1,?_⟩
  refine I6 (gl.mono g) (Tx.of hp o) (Tx.of hq o) o (fun _ _ _ _ _=>⟨_,rfl,P6 ?_⟩) (fun b=>absurd ⟨p,q,rfl,rfl,hpq⟩ b)
  rw [Jq]
  exact ⟨⟨.inr rfl,rfl⟩,W8⟩
 ·obtain rfl:t=1:=by simpa using d
  refine B4 (fun k=>o) (fun _=>D6 (fun e=>absurd rfl e) (fun _=>hK _ g))
def Si(gl:Gl h)(sy:Sys h S c n)(hn:n<=12)(hl:∀ i,i<n->(C0 (c i)).length<=140737488351232)(hs:∀ i,i<n->Sz m (c i))(hm4:4<=m)(hm:m<=1000000)
 (hK:∀ J jc h',h.le h'->Sys h' J (dC c) (n-1)->K (.tuple #[.slice J 1 jc,I 0]) h'):aR prog 64 #[.slice S 1 sc] h K:=by
 refine (fnk func64 [(5,[4,15],[],[.slice none 0 0,I 0]),(8,[4,21],[],[.slice none 0 0,I 0])] (own:=[6,8])) ?_
 refine Px gl sy hn hl ?_
 intro w s
 obtain ⟨A,G,D,F⟩:=sy.mono s
 obtain ⟨a,rfl,c0,c1⟩:=U2 D
 refine ⟨_,rfl,P6 ⟨fun L g=>(L=[.slice none 0 0,I 0]/\g=w)\/(∃ J jc,L=[.slice J 1 jc,I 1]/\w.le g/\Sys g J (dC c) (n-1)),fun L _=>(1-iAt L 1).toNat,.inl ⟨rfl,rfl⟩,?_⟩⟩
 rintro x C dc t g (⟨b,rfl⟩|⟨J,jc,b,q,l⟩)
 ·simp only [aJ,aO,bF,true_and,and_true] at b
  obtain ⟨⟨rfl,rfl,rfl⟩,rfl⟩:=b
  refine B4 (fun _=>?_) (fun z=>o)
  refine ⟨a,rfl,o,o,_,_,_,_,c0,c1,fun L d=>(L=[.slice none 0 0,I 0]/\d=g)\/(∃ J jc,L=[.slice J 1 jc,I 1]/\g.le d/\Sys d J (dC c) (n-1)),fun L _=>(1-iAt L 1).toNat,.inl ⟨rfl,rfl⟩,?_⟩
  rintro x C dc t d (⟨b,rfl⟩|⟨J,jc,b,q,l⟩)
  ·simp only [aJ,aO,bF,true_and,and_true] at b
   obtain ⟨⟨rfl,rfl,rfl⟩,rfl⟩:=b
   refine B4 (fun _=>?_) (fun z=>o)
   refine Xr (gl.mono s) F hn hs hm4 hm ?_
   intro A4 c4 p B r
   refine ⟨_,_,_,_,_,rfl,D6 (fun e=>absurd rfl e) (fun _=>?_)⟩
   refine Xl (ty:=38) Vc (PrivF.nil p 32 none:PrivF p p 32 none 0 ([]:List PV)) (y:=(⟨1,A4,(tU (dC c) (n-1)).length,c4⟩:PV)) rfl (by decide) (by simp) (by simp) ?_
   intro A5 E H M u j
   rw [Jq]
   refine ⟨.inr ⟨A5,E,rfl,A0 B (A0 u j.le),A4,c4,j.sl,r.mono (A0 u j.le)⟩,W8⟩
  ·simp only [aJ,aO,bF,true_and,and_true] at b
   obtain ⟨⟨rfl,rfl,rfl⟩,rfl⟩:=b
   refine B4 (fun k=>o) (fun _=>?_)
   rw [Jq]
   exact ⟨.inr ⟨_,_,rfl,q,l⟩,W8⟩
 ·simp only [aJ,aO,bF,true_and,and_true] at b
  obtain ⟨⟨rfl,rfl,rfl⟩,rfl⟩:=b
  exact B4 (fun k=>o) (fun _=>hK _ _ _ (A0 s q) l)
def Ji{A:Option aX}{tc:Nat}(gl:Gl h)(pa:cL h A (tU c n))(hn:n<=5)(hl:∀ i,i<n->(C0 (c i)).length<=8)(bx:SlV h B [.string (bs (C0 p)),.string (bs (C0 q))])(tp:(C0 p).length<=800)(tq:(C0 q).length<=800)(hpq:p<=q)
 (hK:∀ h',h.le h'->Sz (1+n*38520) (evQ c p q n).1->Sz (1+n*38520) (evQ c p q n).2->K (.tuple #[ivS (evQ c p q n).1 (evQ c p q n).2,I 0]) h'):aR prog 27 #[.agg #[I 1,.slice A (tU c n).length tc],.slice B 1 bc] h K:=by
 have u:=A52 c n
 have lt:=Vb c n
 refine Uq (l:=[(C0 p,C0 q)]) gl pa bx o (fun i s=>?_) (fun i s j k=>?_) (by simp) (fun x e=>?_) (fun a=>absurd ⟨A81 c o,fun x e=>?_⟩ a) (fun _ _ d=>absurd rfl d) ?_
 ·rw [Nr c n o]
  exact hl _ (Co.1 (bI o)).1
 ·rw [Nr c n o] at k ⊢
  have b:j=0:=by simpa using k
  subst b
  have:=(Co.1 (bI (show i<(ks c n).length from o))).1
  show (((ks c n)[i]'o:Nat):Int)<=6
  omega
 ·rw [List.mem_singleton.1 e];exact ⟨tp,tq⟩
 ·intro _ _ _ sm h' r
  obtain ⟨m,g⟩:=B94 sm (tU c n).length (aU _)
  show K (.tuple #[ivS (evE (tU c n) (bxQ [(C0 p,C0 q)]) 1 (tU c n).length).1 (evE (tU c n) (bxQ [(C0 p,C0 q)]) 1 (tU c n).length).2,I 0]) h'
  rw [A3t] at m g ⊢
  exact hK _ r (m.mono o) (g.mono o)
 ·rw [List.mem_singleton.1 e];exact ⟨p,q,rfl,rfl,hpq⟩
end
section
variable {h:aP} {K:VP} {q:List UInt8}
def B0v(n:Nat):(P5 n)[(P5 n).length-1]? = some (dch (n%10)):=by
 by_cases h:n=0
 ·subst h;decide
 ·rw [Cr h,As h];simp
def A7o(z:Int):(Dn z)[(Dn z).length-1]? = some (dch (z.natAbs%10)):=by
 have b:=Hq z.natAbs
 have c:0<(P5 z.natAbs).length:=List.length_pos_iff.2 b
 have a:=B0v z.natAbs
 unfold Dn
 split
 ·rw [aW,Nat.add_sub_cancel]
  obtain ⟨k,hk⟩:∃ k,(P5 z.natAbs).length=k+1:=⟨(P5 z.natAbs).length-1,o⟩
  rw [hk] at a ⊢
  rw [dO]
  simpa using a
 ·exact a
def B6h(z:Int):0<(Dn z).length:=by
 have a:0<(P5 z.natAbs).length:=List.length_pos_iff.2 (Hq z.natAbs)
 unfold Dn
 split
 ·simp
 ·exact a
def B4j:∀ d,d<10->(A5f .u8 (((dch d).toNat:Nat):Int) 1==1)=decide (d%2=1):=dc
def dy(v:Rat):Int:=if 1<2*(v-v.floor)\/(2*(v-v.floor)=1/\v.floor%2=1) then v.floor+1 else v.floor
def B8j(v:Rat):dy v=if ((v+1/2).floor:Rat)=v+1/2/\(v+1/2).floor.natAbs%10%2=1 then (v+1/2).floor-1 else (v+1/2).floor:=by
 obtain ⟨_,_,m,l⟩:=Wb v
 obtain ⟨_,_,g,k⟩:=Wb (v+1/2)
 unfold dy
 generalize (v+1/2).floor=n at *
 generalize v.floor=f at *
 have c1:n<=f+1:=by
  apply Int.not_lt.1
  intro c
  have:((f+2:Int):Rat)<=(n:Rat):=Rat.intCast_le_intCast.2 o
  rw [bM] at this
  grind
 have c2:f<=n:=by
  apply Int.not_lt.1
  intro c
  have:((n+1:Int):Rat)<=(f:Rat):=Rat.intCast_le_intCast.2 o
  rw [bM] at this
  grind
 have c:n=f\/n=f+1:=o
 rcases c with rfl|rfl
 ·have i:¬ 1<=2*(v-n):=gz0
  rw [iN (by rintro (h|⟨h,_⟩)<;>grind),iN (by rintro ⟨h,_⟩;grind)]
 ·rw [bM] at g k ⊢
  have i:1<=2*(v-f):=gz0
  by_cases d:2*(v-f)=1
  ·have e:(f:Rat)+((1:Int):Rat)=v+1/2:=gz0
   by_cases j:f%2=1
   ·rw [iP (.inr ⟨d,j⟩),iN (by rintro ⟨_,h⟩;omega)]
   ·rw [iN (by rintro (h|⟨_,h⟩)<;>grind),iP ⟨e,o⟩];omega
  ·rw [iP (.inl gz0),iN (by rintro ⟨h,_⟩;grind)]
section
variable {h:aP} {K:VP} {m:Nat} {q:List UInt8}
def A1h:∀ (k:Nat) {K:VP},Gl h->k<=8192->K (.string (bs (C0 (2^k)))) h->aR prog 213 #[I (k:Int)] h K:=by
 intro k
 induction k using Nat.strongRecOn with
 | _ k ih=>
  intro K c l d
  refine (fnk func213) ?_
  have b:rv [50]=2:=by rw [<- A7p,C2]
  refine B4 (fun i=>?_) (fun i=>?_)
  ·refine Lc (m:=2) (a:=[50]) c ⟨by simp,by rw [b];exact A7q⟩ o o o ?_ ?_ ?_
   ·intro _ _ _
    rw [b,Int.natAbs_natCast]
    exact ⟨_,_,rfl,d⟩
   ·intro _ g;omega
   ·intro g;omega
  ·have e:B9 (Int.tdiv (k:Int) 2)=((k/2:Nat):Int):=by
    rw [Int.tdiv_eq_ediv_of_nonneg o,B5 o o];omega
   have j:B9 ((k:Int)-((k/2:Nat):Int))=((k-k/2:Nat):Int):=by rw [B5 o o];omega
   rw [e,j]
   refine ih (k/2) o c o ⟨_,rfl,ih (k-k/2) o c o ⟨_,rfl,?_⟩⟩
   refine P1 (m:=2*k+1) c (Tx.of ((L6 _).mono o) o) (Tx.of ((L6 _).mono o) o) o ⟨_,rfl,?_⟩
   rw [C2,C2,<- Rz,show k/2+(k-k/2)=k from o]
   exact d
def Ys{bits:Int}{mq:Nat}(gl:Gl h)(tq:Tx mq q)(hmq:mq<=60000)(hK0:¬ IsNum q->K (.tuple #[.string (bs []),I 1]) h)(hKr:IsNum q->¬ (0<=bits/\bits<=4096)->K (.tuple #[.string (bs []),I 3]) h)
 (hK1:IsNum q->∀ k:Nat,bits=k->k<=4096->K (.tuple #[.string (bs (C0 ((dy (rv q*2^k):Rat)/2^k))),I 0]) h):aR prog 144 #[.string (bs q),I bits] h K:=by
 refine (fnk func144) ?_
 refine V7 gl tq.len (fun i=>⟨_,rfl,Br.not ?_⟩) (fun i=>⟨_,rfl,Br.not (hK0 i)⟩)
 refine B4 (fun e=>hKr i o) (fun M=>B4 (fun e=>hKr i o) (fun L=>?_))
 obtain ⟨k,rfl⟩:∃ k:Nat,bits=k:=⟨bits.toNat,o⟩
 have g:=hK1 i k rfl o
 have y:Sz 60000 (rv q):=tq.sz.mono hmq
 have u:(2:Rat)^k≠0:=by
  intro e
  have:=congrArg Rat.num e
  rw [Rat.num_pow] at this
  have D:(2:Rat).num=2:=dc
  rw [D] at this
  have H:(0:Int)<2^k:=Int.pow_pos dc
  exact absurd this (Int.ne_of_gt H)
 refine A1h k gl o ⟨_,rfl,?_⟩
 have w:=(L6 k).mono (show 2*k+1<=70000 from o)
 have B:=(y.mul (L6 k)).mono (show 60000+(2*k+1)<=70000 from o)
 refine P1 (m:=70000) gl ⟨tq.len,y.mono o⟩ (Tx.of w o) o ⟨_,rfl,?_⟩
 rw [C2]
 have l:rv [49,47,50]=1/2:=by rw [<- A56,C2]
 have A:rv [49]=1:=by rw [<- A97,C2]
 refine Gt (m:=70000) (b:=[49,47,50]) gl (Tx.of B o) ⟨by simp,by rw [l];exact Su.mono o⟩ o ⟨_,rfl,?_⟩
 rw [C2,l]
 have s:=(B.add Su).mono (show 70000+2+1<=80000 from o)
 rw [B8j] at g
 generalize rv q*2^k=v at *
 refine Rt (m:=80000) gl (Tx.of s o) o ⟨_,rfl,?_⟩
 rw [C2,Na]
 have p:=Sz.int (Bm s) o
 generalize i:(v+1/2).floor=n at *
 have d:∀ {z:Int},Sz 90000 (z:Rat)->K (.tuple #[.string (bs (C0 ((z:Rat)/2^k))),I 0]) h->aR prog 201 #[.string (bs (C0 (z:Rat))),.string (bs (C0 (2^k)))] h (fun r G=>∃ (ta:ByteArray) (tb:Bool),r= .tuple #[.string ta,.bool tb]/\K (.tuple #[.string ta,I 0]) G):=by
  intro z sz F
  refine Lf (m:=90000) gl (Tx.of sz o) (Tx.of (w.mono o) o) o o ?_ ?_
  ·intro _
   rw [C2,C2]
   exact ⟨_,_,rfl,F⟩
  ·intro e
   rw [C2] at e
   exact absurd e u
 have x:=B6h n
 refine B4 (fun e=>?_) (fun e=>?_)
 ·have j:(n:Rat)=v+1/2:=by
   rw [Uz] at e
   exact E8 e
  have c:=X6 s
  rw [<- e] at c
  have E:B9 (((bs (Dn n)).size:Int)-1)=(((Dn n).length-1:Nat):Int):=by rw [P3,B5 o o];omega
  rw [E,aL,Wc,A7o]
  refine ⟨_,⟨o,rfl⟩,?_⟩
  rw [B4j _ (Nat.mod_lt _ dc),Uz]
  refine B4 (fun a=>?_) (fun a=>?_)
  ·rw [iP ⟨j,a⟩] at g
   refine Rr (m:=80000) (b:=[49]) gl (Tx.of p o) ⟨by simp,by rw [A];exact B5p.mono o⟩ o ⟨_,rfl,?_⟩
   rw [C2,A]
   have C:(n:Rat)-1=((n-1:Int):Rat):=by rw [bK];rfl
   rw [C]
   refine d ?_ g
   rw [<- C]
   exact (p.sub B5p).mono o
  ·rw [iN (by rintro ⟨_,h⟩;exact a h)] at g
   exact d (p.mono o) g
 ·rw [iN (by rintro ⟨h,_⟩;exact e (by rw [Uz,h]))] at g
  rw [Uz]
  exact d (p.mono o) g
end
end
section
variable {h hp g o:aP} {K:VP} {A B:Option aX} {ts:List K9} {n v m D T p bs dn dc c cc:Nat} {x:Nat->Rat} {d:Int} {sc:Nat->Int} {ds:Bool} {dA:Option aX}
def C4y{bp:Nat}(gl:Gl hp)(hbp:hp bp=none)(rz:cU ZIr hp (some ⟨bs,0,none⟩) n sc)(id:ZI hp ds dA dn dc d)(hn:n<=1000)(hd:0<d)(zb:∀ i,i<n->ZB T (sc i))(zd:ZB T d)(hT1:1<=T)(hT:T<=100000000)
 (he:∀ i,i<n->(sc i:Rat)=tmV (tm ts i).2 x (rv (tm ts i).1) v*(d:Rat))
 (hK:∀ w h',hp.le h'->RQ h' w (evV ts x v n)->K w.v h'):
 Pg prog K (some ⟨bs,0,none⟩) n ds dA dn dc ⟨bp,0,none⟩ (hp.put bp (.cells #[.slice none 0 0,.slice none 0 0] 244)):=by
 unfold Pg
 have Z0:SumS (hp.put bp (.cells #[.slice none 0 0,.slice none 0 0] 244)) hp bp 244 200000001 0 0:=SumS.zero hbp
 refine ⟨fun L p=>∃ (k:Nat) (g:aP),k<=n/\L=[I (k:Int)]/\hp.le g/\SumS p g bp 244 200000001 (suA sc k) (suZ sc k),fun L _=>n-(iAt L 0).toNat,⟨0,hp,oo,rfl,B0 _,Z0⟩,?_⟩
 rintro z p ⟨k,g,N,D,j,Z⟩
 obtain rfl:=sI1 D
 refine B4 (fun A=>?_) (fun y=>?_)
 ·have b:k<n:=oo
  obtain ⟨a,G,F,r,c0,c1⟩:=(rz.mono P2 j).zat b
  refine ⟨a,F,oo,oo,_,_,_,_,B7 Z.le c0,B7 Z.le c1,?_⟩
  have O:G.n<=100000000:=ZI.len r (zb k b) oo
  have R:=C02 zb (k+1) b
  have u:=Xq (m:=T) (k:=k+1) oo oo
  refine A8g Z r oo oo (N1:=T) (by show suA sc (k+1)<_;omega) oo ?_
  intro V H E Z3
  rw [wiS k oo]
  exact ⟨rfl,⟨k+1,H,oo,rfl,A0 j E,Z3⟩,by simp only [Ca];omega⟩
 ·obtain rfl:k=n:=oo
  refine Bg Z oo ?_
  intro S Av nv M Q l B
  have c:=A0 j (A0 Z.le l)
  refine ⟨_,_,_,_,rfl,l,?_⟩
  refine Q3 (m:=T+10) (gl.mono c).tz B (id.mono c) (C00 hn zb) (zd.mono oo) oo ?_
  intro w C s q
  refine ⟨_,_,_,_,_,_,_,_,rfl,s,hK w C (A0 c s) ?_⟩
  have e:d≠0:=oo
  have:Rat.divInt (suZ sc k) d=evV ts x v k:=by
   rw [Rat.divInt_eq_div,C01 he k (aU _)]
   exact Rat.mul_div_cancel (Bn e)
  rw [this] at q
  exact q
def B6s{es:List Int}{c0:Rat}{k G:Nat}{s0:Int}{e:Int}(h0:0<=e)(he:e=es.getD k 0)(hG:e<=(G:Int))(hs:(s0:Rat)=tmV es x c0 k*(d:Rat)):((s0*pwZ (x k) G e.toNat:Int):Rat)=tmV es x c0 (k+1)*((d*((x k).den:Int)^G:Int):Rat):=by
 subst he
 show _=(tmV es x c0 k*x k^(es.getD k 0).toNat)*_
 rw [aF,C1h (x k) (show (es.getD k 0).toNat<=G from oo),hs,aF]
 grind
def C6b{S:Nat}(gl:Gl h)(lg0:h.le g)(s:Sep hp g o){ws:List IV}(rb:RowX o bs ws)(hw:ws.length=n)(rr:Row ZIr g ws n sc)(er:cU ENr h A n (tm ts))(px:cU RQr h B v x)(id:ZI g ds dA dn dc d)(hn:n<=1000)(hv:v<=6)(hD:D<=1000)(hx:∀ j,j<v->Sz p (x j))(hp1:1<=p)(hpm:p<=6400000000)(hex:∀ k,k<v->∀ i,i<n->0<=exA ts k i/\exA ts k i<=(D:Int))(hd:0<d)(zb:∀ i,i<n->ZB S (sc i))(zd:ZB S d)(hT:S+6*(p*D+2)<=T)(hT1:T<=100000000)
 (he:∀ i,i<n->(sc i:Rat)=rv (tm ts i).1*(d:Rat))
 (hK:∀ w h',h.le h'->RQ h' w (evV ts x v n)->K w.v h'):
 Tt prog A n B v K ds dA dn dc (some ⟨bs,0,none⟩) n hp:=by
 unfold Tt
 refine ⟨fun L l=>∃ (k:Nat) (g o:aP) (ws:List IV) (sc:Nat->Int) (d:Int) (ds:Bool) (dA:Option aX) (dn dc:Nat),k<=v/\L=[I (k:Int),.bool ds,.slice dA dn dc]/\h.le g/\Sep l g o/\RowX o bs ws/\ws.length=n/\Row ZIr g ws n sc/\ZI g ds dA dn dc d/\0<d/\(∀ i,i<n->ZB (S+k*(p*D+2)) (sc i))/\ZB (S+k*(p*D+2)) d/\∀ i,i<n->(sc i:Rat)=tmV (tm ts i).2 x (rv (tm ts i).1) k*(d:Rat),fun L _=>v-(iAt L 0).toNat,
  ⟨0,g,o,ws,sc,d,ds,dA,dn,dc,oo,rfl,lg0,s,rb,hw,rr,id,hd,fun i c=>(zb i c).mono oo,zd.mono oo,he⟩,?_⟩
 clear lg0 s rb hw rr id hd zb zd he
 rintro z ds dA dn dc ad ⟨k,g,o,ws,sc,d,q,m,u,y,hk,V,C,s,rb,hw,rr,id,hd,zb,zd,he⟩
 simp only [aJ,aO,dF,bF,true_and,and_true] at V
 obtain ⟨rfl,rfl,rfl,rfl,rfl⟩:=V
 refine B4 (fun ab=>?_) (fun aa=>?_)
 ·have b:k<v:=oo
  have N:k*(p*D+2)+(p*D+2)<=6*(p*D+2):=by
   rw [<- cI];exact aV _ oo
  obtain ⟨a,w,rfl,iw,d0,d1,d2,d3⟩:=(px.mono Bj C).qat b
  refine ⟨a,rfl,oo,oo,_,_,_,_,_,_,_,_,B7 s.le d0,B7 s.le d1,B7 s.le d2,B7 s.le d3,?_⟩
  refine C51 (T:=T) (D:=D) (p:=p) (er.mono Qn C) s rb hw rr iw id oo hn hD (hex k b) (fun i c=>(zb i c).mono oo) (zd.mono oo) (hx k b) hp1 hT1 oo hpm ?_
  intro G X r l g' o' M q m u y R s' H E F O
  have ac:p*G<=p*D:=cW _ X
  unfold C5c
  rw [wiS k oo]
  have W:S+(k+1)*(p*D+2)=(S+k*(p*D+2))+(p*D+2):=by rw [cI];omega
  refine ⟨⟨k+1,g',o',M,_,_,q,m,u,y,oo,rfl,A0 C R,s',H,E,F,O,?_,fun i c=>?_,?_,fun i c=>?_⟩,by simp only [Ca];omega⟩
  ·have:(0:Int)<((x k).den:Int)^G:=Int.pow_pos (by have:=(x k).den_pos;omega)
   exact Int.mul_pos hd this
  ·rw [W]
   exact (zb i c).mul (B5j (hx k b) hp1 (by have:=r i c;have:=(hex k b i c).1;omega) X)
  ·rw [W]
   exact zd.mul (((hx k b).den.pow hp1 G).mono oo)
  ·exact B6s (hex k b i c).1 rfl (r i c) (he i c)
 ·obtain rfl:k=v:=oo
  have N:k*(p*D+2)<=6*(p*D+2):=aV _ hv
  refine T7 Rd ?_
  intro bp Q
  refine ⟨_,rfl,?_⟩
  have e:=A0 C s.le
  refine C4y (T:=T) (gl.mono e) Q ⟨ws,rb.rowB.slF s.ole,hw,rr.mono P2 s.le⟩ (id.mono s.le) hn hd (fun i c=>(zb i c).mono oo) (zd.mono oo) oo hT1 he ?_
  intro w h' R i'
  exact hK w h' (A0 e R) i'
def A0t(gl:Gl h)(er:cU ENr h A n (tm ts))(px:cU RQr h B v x)(hn:n<=1000)(hv:v<=6)(hD:D<=1000)(hcf:∀ i,i<n->Sz m (rv (tm ts i).1))(hx:∀ j,j<v->Sz p (x j))(hp1:1<=p)(hex:∀ k,k<v->∀ i,i<n->0<=exA ts k i/\exA ts k i<=(D:Int))(hT:m+(1+n*m+m)+6*(p*D+2)<=100000000)(hpm:p<=100000000)
 (hK:∀ w h',h.le h'->RQ h' w (evV ts x v n)->K w.v h'):aR prog 147 #[.slice A n c,.slice B v cc] h K:=by
 refine A71 _ _ _ _ _ _ ?_
 unfold B1q
 refine Xs gl er hn hcf oo ?_
 intro s1 A1 n1 c1 H l1 i1
 refine ⟨_,_,_,_,rfl,?_⟩
 refine D8 tZs (zx:=(⟨false,none,0,0⟩:IV)) rfl oo oo oo oo ?_
 intro b hb
 rw [aL]
 obtain ⟨d,ed⟩:∃ d,d=Nl (fun i=>rv (tm ts i).1) n:=⟨_,rfl⟩
 have q:=Ol (f:=fun i=>rv (tm ts i).1) (m:=m) n hcf
 have N:=Yi (fun i=>rv (tm ts i).1) n
 have C:=fun i F=>Yj (fun i=>rv (tm ts i).1) n i F
 rw [<- ed] at i1 q N C
 refine ⟨_,_,_,rfl,fun L V=>∃ (k:Nat) (g o:aP) (M:List IV),k<=n/\L=[I (k:Int)]/\H.le g/\Sep V g o/\RowX o b M/\M.length=n/\Row ZIr g M k (fun i=>scl (rv (tm ts i).1) (d:Int)),fun L _=>n-(iAt L 0).toNat,⟨0,H,_,_,oo,rfl,B0 _,F1 hb,RowX.mk,by simp,Row.nil⟩,?_⟩
 rintro z V ⟨k,g,o,M,hk,eL,G,s,X,W,Q⟩
 obtain rfl:=sI1 eL
 have E:=A0 l1 G
 refine B4 (fun ab=>?_) (fun aa=>?_)
 ·have r:k<n:=oo
  obtain ⟨a,e,rfl,⟨ie,_⟩,hc⟩:=(er.mono Qn E).eat r
  have l:=fun (j:Nat) (u:bN) (H:(enc e)[j]? = some u)=>B7 s.le (hc j u H)
  refine ⟨a,rfl,oo,oo,_,_,_,_,_,_,_,_,_,_,_,_,_,_,l 0 _ rfl,l 1 _ rfl,l 2 _ rfl,l 3 _ rfl,l 4 _ rfl,l 5 _ rfl,l 6 _ rfl,l 7 _ rfl,l 8 _ rfl,l 9 _ rfl,?_⟩
  refine s.call (Ju (m:=1+n*m+m) ie (i1.mono G) ((hcf k r).mono oo) (q.mono oo) oo ?_)
  intro O A3 n3 c3 g3 R i3 h3 s3
  refine ⟨_,_,_,_,rfl,_,rfl,oo,oo,?_⟩
  refine E7 Ww (y:=(⟨O,A3,n3,c3⟩:IV)) rfl s3 X (i:=k) oo ?_
  intro h5 o5 x5 e5 s5 r5
  rw [wiS k oo]
  exact ⟨⟨k+1,g3,o5,_,oo,rfl,A0 G R,s5,r5,by rw [List.length_set];exact W,(Q.mono P2 R).set oo i3⟩,by simp only [Ca];omega⟩
 ·obtain rfl:k=n:=oo
  refine C6b (S:=m+(1+k*m)) (T:=100000000) (p:=p) (D:=D) gl E s X W Q er px (i1.mono G) hn hv hD hx hp1 oo hex oo (fun i F=>A8e (hcf i F) q) (q.mono oo) oo (aU _) (fun i F=>A8f (Int.natCast_dvd_natCast.2 (C i F))) hK
end
section
variable {h:aP} {K:VP} {A B:Option aX} {ts:List K9} {m D p c cc:Nat}
def A3g{vars:Int}{n2:Nat}{ls:Nat->List UInt8}(gl:Gl h)(pa:cL h A ts)(px:cU SSr h B n2 ls)(hts:ts.length<=1000)(hD:D<=1000)(hcl:∀ i,i<ts.length->(tm ts i).1.length<=1000)(hxl:∀ i,i<n2->(ls i).length<=10000)(hn2:n2<=1000)
 (hcf:∀ i,i<ts.length->Sz m (rv (tm ts i).1)) (hx:∀ j,j<n2->Sz p (rv (ls j))) (hp1:1<=p) (hT:m+(1+ts.length*m+m)+6*(p*D+2)<=10000000) (hpm:p<=10000000) (hex:∀ i,i<ts.length->∀ k,k<(tm ts i).2.length->(tm ts i).2.getD k 0<=(D:Int))
 (hsz:Bc vars ts->(n2:Int)=vars->Sz 40000000 (evV ts (fun i=>rv (ls i)) n2 ts.length))
 (hK1:¬ (Bc vars ts/\∀ i,i<n2->IsNum (ls i))->∀ h',h.le h'->K (.tuple #[.string ({ data:=#[] }:ByteArray),I 1]) h')
 (hK4:(Bc vars ts/\∀ i,i<n2->IsNum (ls i))->(n2:Int)≠vars->∀ h',h.le h'->K (.tuple #[.string ({ data:=#[] }:ByteArray),I 4]) h')
 (hK0:Bc vars ts->(∀ i,i<n2->IsNum (ls i))->(n2:Int)=vars->∀ h',h.le h'->K (.tuple #[.string (bs (C0 (evV ts (fun i=>rv (ls i)) n2 ts.length))),I 0]) h'):aR prog 68 #[.agg #[I vars,.slice A ts.length c],.slice B n2 cc] h K:=by
 refine (fnk func68 (own:=[2])) ?_
 refine Pv gl.tz pa hts (fun i g=>by have:=hcl i g;omega) (fun po A1 c1 F l E=>⟨_,_,_,_,rfl,?_⟩) (fun s F l=>⟨_,_,_,_,rfl,?_⟩)
 ·refine Ao (gl.mono l) (px.mono Jc l) o (fun i g=>by have:=hxl i g;omega) (fun a b u r=>⟨_,_,_,_,rfl,Wm (Wm ?_)⟩) (fun n u x=>⟨_,_,_,_,rfl,Wm (Wn (hK1 (fun y=>n y.2) _ (A0 l x)))⟩)
  have d:=A0 l r.le
  refine D6 (fun e=>hK4 ⟨po,a⟩ e _ d) (fun C=>?_)
  obtain ⟨wf,_⟩:=id po
  have H:=wf.hi
  refine A0t (m:=m) (p:=p) (D:=D) (gl.mono d) (E.mono Qn r.le) (r.vis Bj) hts o hD hcf hx hp1 (fun k L i g=>?_) o o ?_
  ·have M:=(wf.all i g).1.len
   have q:k<(tm ts i).2.length:=o
   exact ⟨((wf.all i g).1.exps _ (Is q)).1,hex i g k q⟩
  ·intro w N z G
   refine ⟨_,_,_,_,_,_,_,_,rfl,I9 (gl.mono (A0 d z)).p10 G (hsz po C) o ⟨_,rfl,hK0 po a C _ (A0 d z)⟩⟩
 ·refine Ao (gl.mono l) (px.mono Jc l) o (fun i g=>by have:=hxl i g;omega) (fun a b u r=>⟨_,_,_,_,rfl,Wn (hK1 (fun y=>s y.1) _ (A0 l r.le))⟩) (fun n u x=>⟨_,_,_,_,rfl,Wn (hK1 (fun y=>s y.1) _ (A0 l x))⟩)
end
section
variable {h:aP} {K:VP} {A B:Option aX} {c bc:Nat} {l:List Ivl} {x:List UInt8} {ts:List K9} {vars:Int}
end
section
variable {h:aP} {K:VP} {m:Nat} {lo hi x lo2 hi2 s t:List UInt8}
end
abbrev R4:=List UInt8 × List UInt8 × Bool × Int
abbrev r4(x:R4):bN:=.tuple #[ivT x.1 x.2.1,.bool x.2.2.1,I x.2.2.2]
def Sr(lo hi lo2 hi2:List UInt8):R4:=if ivB lo hi&&ivB lo2 hi2 then (if mx (rv lo) (rv lo2)<=mn (rv hi) (rv hi2) then (C0 (mx (rv lo) (rv lo2)),C0 (mn (rv hi) (rv hi2)),true,0) else ([],[],false,0)) else ([],[],false,1)
def Sz.mn{m:Nat}{p q:Rat}(hp:Sz m p)(hq:Sz m q):Sz m (mn p q):=by rcases A6c p q with e|e<;>rw [e]<;>assumption
def Sz.mx{m:Nat}{p q:Rat}(hp:Sz m p)(hq:Sz m q):Sz m (mx p q):=by rcases A6a p q with e|e<;>rw [e]<;>assumption
def Oo{p q r s:Rat}(h:p<=q)(h2:r<=s)(h3:mx p r<=mn q s):Sr (C0 p) (C0 q) (C0 r) (C0 s)=(C0 (mx p r),C0 (mn q s),true,0):=by rw [Sr,iP (A4f h h2),C2,C2,C2,C2,iP h3]
def Vt{p q r s:Rat}(h:p<=q)(h2:r<=s)(h3:¬ mx p r<=mn q s):Sr (C0 p) (C0 q) (C0 r) (C0 s)=([],[],false,0):=by rw [Sr,iP (A4f h h2),C2,C2,C2,C2,iN h3]
def A9v{lo hi lo2 hi2:List UInt8}(h:¬ (Zi lo hi/\Zi lo2 hi2)):Sr lo hi lo2 hi2=([],[],false,1):=by rw [Sr,A7s h,iN (by simp)]
def Oc{m:Nat}{q:Rat}(h:Sz m q):∀ t∈[q],Sz m t:=fun t a=>by rw [List.mem_singleton.1 a];exact h
section
variable {h:aP} {K:VP} {m:Nat} {lo hi x lo2 hi2:List UInt8}
def A9y(gl:Gl h)(ta:Tx m lo)(tb:Tx m hi)(tc:Tx m lo2)(td:Tx m hi2)(hm:m<=1000000)(hK:K (r4 (Sr lo hi lo2 hi2)) h):aR prog 18 #[ivT lo hi,ivT lo2 hi2] h K:=by
 refine FCall.pure ((fnk func18 (os:=[(3,[0,1,2,3,6,7,8,9,13,4,5,10,11,12,14])]) (al:=[(3,[(4,[10]),(5,[10])])]) (own:=[2,3,4,7])) ?_)
 have C:¬ (Zi lo hi/\Zi lo2 hi2)->h.le h/\K (.tuple #[.agg #[.string ({ data:=#[] }:ByteArray),.string ({ data:=#[] }:ByteArray)],.bool false,I (1:Int)]) h:=by
  intro u
  rw [A9v u] at hK
  exact ⟨B0 _,hK⟩
 refine I6 gl ta tb o (fun p q M H w=>⟨_,rfl,?_⟩) (fun u=>⟨_,rfl,C fun x=>u x.1⟩)
 refine I6 gl tc td o (fun r s N Q c=>⟨_,rfl,?_⟩) (fun u=>⟨_,rfl,C fun x=>u x.2⟩)
 subst M H N Q
 have e:=ta.sz;have n:=tb.sz;have l:=tc.sz;have i:=td.sz
 rw [C2] at e n l i
 have tail:∀ A,h.le A->aR prog 7 #[ivT (C0 (mx p r)) (C0 (mn q s))] A (fun r4 j=>∃ (t31:Bool),r4= .bool t31/\Br (!t31) (h.le j/\K (.tuple #[.agg #[.string ({ data:=#[] }:ByteArray),.string ({ data:=#[] }:ByteArray)],.bool false,I (0:Int)]) h)
  (h.le j/\K (.tuple #[.agg #[.string (bs (C0 (mx p r))),.string (bs (C0 (mn q s)))],.bool true,I (0:Int)]) h)):=by
  intro A B
  refine B87 (gl.mono B) (Tx.of (e.mx l) o) (Tx.of (n.mn i) o) o ⟨_,rfl,?_⟩
  by_cases z:mx p r<=mn q s
  ·rw [Oo w c z] at hK
   rw [Rg z];exact ⟨B,hK⟩
  ·rw [Vt w c z] at hK
   rw [A18 (fun ⟨R,S,F,L,O⟩=>z (by rw [E8 F,E8 L];exact O))];exact ⟨B,hK⟩
 refine ⟨Kd P9 (ls:=[C0 r]) rfl (by simp) rfl ?_,Kd P9 (ls:=[C0 s]) rfl (by simp) rfl ?_⟩
 ·intro E G d y
  refine ⟨_,_,_,rfl,d,?_,?_⟩
  ·refine Bk (qs:=[r]) (gl.mono d) rfl y e (Oc l) o (by simp) ⟨_,rfl,B0 _,?_⟩
   refine Kd P9 (ls:=[C0 s]) rfl (by simp) rfl ?_
   intro D g b k
   have a:=A0 d b
   exact ⟨_,_,_,rfl,b,Iq (qs:=[s]) (gl.mono a) rfl k n (Oc i) o (by simp) ⟨_,rfl,B0 _,tail g a⟩⟩
  ·refine Kd P9 (ls:=[C0 s]) rfl (by simp) rfl ?_
   intro D g b k
   have a:=A0 d b
   refine ⟨_,_,_,rfl,b,Bk (qs:=[r]) (gl.mono a) rfl (y.mono b) e (Oc l) o (by simp) ⟨_,rfl,B0 _,?_⟩⟩
   exact Iq (qs:=[s]) (gl.mono a) rfl k n (Oc i) o (by simp) ⟨_,rfl,B0 _,tail g a⟩
 ·intro E G d y
  refine ⟨_,_,_,rfl,d,Kd P9 (ls:=[C0 r]) rfl (by simp) rfl ?_⟩
  intro D g b k
  have a:=A0 d b
  refine ⟨_,_,_,rfl,b,Bk (qs:=[r]) (gl.mono a) rfl k e (Oc l) o (by simp) ⟨_,rfl,B0 _,?_⟩⟩
  exact Iq (qs:=[s]) (gl.mono a) rfl (y.mono b) n (Oc i) o (by simp) ⟨_,rfl,B0 _,tail g a⟩
end
def B54{es:List Int}{x:Nat->Rat}{c:Rat}{m p D:Nat}(hp:1<=p)(hc:Sz m c):∀ k,(∀ j,j<k->Sz p (x j))->(∀ j,j<k->(es.getD j 0).toNat<=D)->Sz (m+k*(p*D+1)) (tmV es x c k)
 | 0,_,_=>hc.mono o
 | k+1,hx,he=>by
  have h1:=B54 hp hc k (fun j a=>hx j o) (fun j a=>he j o)
  have b:=(hx k o).pow hp (es.getD k 0).toNat
  have d:p*(es.getD k 0).toNat<=p*D:=cW _ (he k o)
  refine (h1.mul b).mono ?_
  rw [cI];omega
def B61{ts:List K9}{x:Nat->Rat}{n M:Nat}: ∀ i,(∀ t,t<i->Sz M (tmV (tm ts t).2 x (rv (tm ts t).1) n))->Sz (1+i*(M+1)) (evV ts x n i)
 | 0,_=>Sz.zero o
 | i+1,h=>by
  have h1:=B61 i fun t a=>h t o
  refine (h1.add (h i o)).mono ?_
  rw [cI];omega
section
variable {h:aP} {K:VP} {A B:Option aX} {c bc:Nat} {l:List Ivl} {ts:List K9} {vars:Int}
def Om{n:Int}{b:Nat}(h1:1<=b)(h2:b<=1000)(hK:∀ k:Nat,k<b->K (I (k:Int)) h):aR prog 9 #[I n,I (b:Int)] h K:=by
 refine (fnk func9) ?_
 have h1:=Int.tmod_lt_of_pos n (show (0:Int)<(b:Int) from o)
 have h2:=Int.lt_tmod_of_pos n (show (0:Int)<(b:Int) from o)
 refine B4 (fun e=>o) (fun _=>B4 (fun c=>?_) (fun a=>?_))
 ·have:=hK (dD n b+b).toNat o
  rw [show B9 (dD n b+b)=(((dD n b+b).toNat:Nat):Int) by rw [B5]<;>omega]
  exact this
 ·have:=hK (dD n b).toNat o
  rw [show ((dD n b).toNat:Int)=dD n b from o] at this
  exact this
def Hm{k:Int}{n a:Nat}{ls:Nat->List UInt8}(r:cU SSr h A n ls)(hn:n<=1000000000)(hK1:(∀ i,i<n->((ls i).length:Int)<=k)->K (.bool true) h)(hK0:¬ (∀ i,i<n->((ls i).length:Int)<=k)->K (.bool false) h):aR prog 5 #[I k,.slice A n a] h K:=by
 refine (fnk func5 [(2,[5],[],[I 0])]) ?_
 refine ⟨fun L c=>∃ i:Nat,i<=n/\L=[I (i:Int)]/\c=h/\∀ j,j<i->((ls j).length:Int)<=k,fun L _=>n-(iAt L 0).toNat,⟨0,o,rfl,rfl,fun j m=>o⟩,?_⟩
 rintro z c ⟨i,w,u,rfl,d⟩
 obtain rfl:=sI1 u
 refine B4 (fun l=>?_) (fun g=>?_)
 ·have b:i<n:=o
  obtain ⟨x,rfl,p⟩:=r.sat b
  refine ⟨x,rfl,o,o,_,p,?_⟩
  rw [P3]
  refine B4 (fun e=>hK0 fun s=>by have:=s i b;omega) (fun e=>?_)
  rw [wiS i o]
  refine ⟨⟨i+1,o,rfl,rfl,fun j m=>?_⟩,by simp only [Ca];omega⟩
  by_cases q:j=i
  ·subst q;omega
  ·exact d j o
 ·have:i=n:=o
  subst this
  exact hK1 d
end
def B9u:B9 (Int.tdiv (0:Int) ((1:Nat):Int))=0:=dc
section
variable {h:aP} {K:VP} {S B:Option aX} {c:Nat->Rat} {n sc bc m:Nat} {lo hi:List UInt8} {p q:Rat}
def Od(gl:Gl h)(sy:Sys h S c n)(hn:n<=5)(hl:∀ i,i<n->(C0 (c i)).length<=8)(bx:SlV h B [.string (bs (C0 p)),.string (bs (C0 q))])(tp:(C0 p).length<=800)(tq:(C0 q).length<=800)(hpq:p<=q)
 (hK:∀ bo h',Rw1 h h' bo (C0 (evQ c p q n).1) (C0 (evQ c p q n).2)->Sz (1+n*38520) (evQ c p q n).1->Sz (1+n*38520) (evQ c p q n).2->K (.tuple #[.slice (some ⟨bo,0,none⟩) 1 1,I 0]) h'):aR prog 67 #[.slice S 1 sc,.slice B 1 bc] h K:=by
 refine (fnk func67 [(3,[16],[],[I 0])] (own:=[8,9]) (wr:=[1000000000])) ?_
 refine D8 C3l (zx:=(⟨none,0,0⟩:HV)) rfl oo oo oo oo ?_
 intro b G
 have s:Sep (W9 220 h b (aC 1 (⟨none,0,0⟩:HV))) h (J8.put b (.cells ((aC 1 (⟨none,0,0⟩:HV)).flatMap enc).toArray 220)):=F1 G
 obtain ⟨A,tc,R,W⟩:=sy
 obtain ⟨a,rfl,c0,c1⟩:=U2 R
 refine ⟨_,_,_,rfl,fun L C=>(L=[I 0]/\C=W9 220 h b (aC 1 (⟨none,0,0⟩:HV)))\/(L=[I 1]/\Rw1 h C b (C0 (evQ c p q n).1) (C0 (evQ c p q n).2)/\Sz (1+n*38520) (evQ c p q n).1/\Sz (1+n*38520) (evQ c p q n).2),fun L _=>(1-iAt L 0).toNat,.inl ⟨rfl,rfl⟩,?_⟩
 rintro t H (⟨r,rfl⟩|⟨r,x,k,g⟩)
 ·obtain rfl:t=0:=by simpa using r
  refine B4 (fun _=>?_) (fun hz=>oo)
  refine ⟨a,rfl,oo,oo,_,_,_,_,B7 s.le c0,B7 s.le c1,?_⟩
  refine s.call (Ji gl W hn hl bx tp tq hpq ?_)
  intro g2 V k g h2 z
  refine ⟨_,_,_,rfl,D6 (fun e=>absurd rfl e) (fun _=>?_)⟩
  rw [B9u]
  refine B4 (fun e=>oo) (fun _=>B4 (fun e=>oo) (fun _=>?_))
  have d:=z.cell (RowB.cell (RowX.mk (o:=J8) (b:=b) (xs:=aC 1 (⟨none,0,0⟩:HV)) (e:=220)).rowB (i:=0) dc (j:=0) (v:=.slice none 0 0) rfl)
  refine ⟨_,rfl,oo,oo,_,_,_,d,?_⟩
  have w:cO (J8.put b (.cells ((aC 1 (⟨none,0,0⟩:HV)).flatMap enc).toArray 220)) 221 none 0 ([]:List Ivl):=OwnSl.nil
  refine OwnSl.push (ty:=220) tSs z w (v:=ivS (evQ c p q n).1 (evQ c p q n).2) (y:=((C0 (evQ c p q n).1,C0 (evQ c p q n).2):Ivl)) rfl dc (by simp) (by simp) (K1:=fun M=>Heap.le _ M) (fun _ l=>l) ?_
  intro A3 c3 h3 g3 O N T m keep
  obtain ⟨X,D⟩:=keep b _ (B8 _ _ _) (by simp)
  refine ⟨_,rfl,oo,oo,?_⟩
  have u:RowX O b (aC 1 (⟨none,0,0⟩:HV)):=⟨_,X⟩
  refine E7 Wx (y:=(⟨A3,1,c3⟩:HV)) rfl T u (i:=0) dc ?_
  rintro h4 o4 x4 rfl F r4
  rw [Jq]
  refine ⟨.inr ⟨rfl,⟨g3,_,A3,c3,A0 V N,F,r4,m.keep fun bA y e Q=>?_,D⟩,k,g⟩,W8⟩
  rw [B6 _ _ (by rintro rfl;exact D e)]
  exact Q
 ·obtain rfl:t=1:=by simpa using r
  exact B4 (fun E=>oo) (fun _=>hK _ _ x k g)
def A4o{A:Option aX}{x:List UInt8}(s:SlV h A [.string (bs x)]):cU SSr h A 1 (fun _=>x):=⟨[x],s,rfl,fun i a=>by
 have:i=0:=o
 subst this
 exact ⟨x,rfl,rfl⟩⟩
def Ly{A:Option aX}{tc:Nat}{M:Option aX}{mc:Nat}{x:Rat}(gl:Gl h)(pa:cL h A (tU c n))(hn:n<=5)(hs:∀ i,i<n->Sz 20 (c i))(mx:SlV h M [.string (bs (C0 x))])(hx:Sz 2800 x)
 (hK:∀ h',h.le h'->Sz (1+n*12080) (sQ c x n)->K (.tuple #[.string (bs (C0 (sQ c x n))),I 0]) h'):aR prog 68 #[.agg #[I 1,.slice A (tU c n).length tc],.slice M 1 mc] h K:=by
 have C:=A52 c n
 have lt:=Vb c n
 have a:∀ i,i<(tU c n).length->Sz 20 (rv (tm (tU c n) i).1):=fun i u=>by
  rw [Nr c n o,C2]
  exact hs _ (Co.1 (bI o)).1
 have b:∀ i,i<(tU c n).length->∀ k,k<(tm (tU c n) i).2.length->(tm (tU c n) i).2.getD k 0<=((4:Nat):Int):=fun i u k s=>by
  rw [Nr c n o] at s ⊢
  have q:k=0:=by simpa using s
  subst q
  have:=(Co.1 (bI (show i<(ks c n).length from o))).1
  show (((ks c n)[i]'o:Nat):Int)<=_
  omega
 have r:Sz (1+n*12080) (evV (tU c n) (fun _=>rv (C0 x)) 1 (tU c n).length):=by
  have d:Sz 2800 (rv (C0 x)):=by rw [C2];exact hx
  have:=B61 (ts:=tU c n) (x:=fun _=>rv (C0 x)) (n:=1) (M:=20+1*(2800*4+1)) (tU c n).length fun t w=>
   B54 (p:=2800) (D:=4) o (a t w) 1 (fun _ _=>d) (fun j E=>by
    have z:j=0:=o
    subst z
    have:=b t w 0 (by rw [Nr c n o];simp)
    omega)
  refine this.mono ?_
  omega
 have e:evV (tU c n) (fun _=>rv (C0 x)) 1 (tU c n).length=sQ c x n:=by rw [B60,C2]
 rw [e] at r
 have B:(tU c n).length*20<=5*20:=aV _ o
 refine A3g (ls:=fun _=>C0 x) (n2:=1) (m:=20) (p:=2800) (D:=4) gl pa (A4o mx) o o (fun i u=>?_) (fun _ _=>?_) o a (fun _ _=>by rw [C2];exact hx) o o o b (fun _ _=>?_) (fun g=>absurd ⟨A81 c o,fun _ _=>⟨x,rfl⟩⟩ g) (fun _ l=>absurd rfl l) ?_
 ·rw [Nr c n o]
  have:=X6 (hs _ (Co.1 (bI (show i<(ks c n).length from o))).1)
  show (C0 _).length<=_
  omega
 ·have:=X6 hx;omega
 ·show Sz _ (evV (tU c n) (fun _=>rv (C0 x)) 1 (tU c n).length)
  rw [e];exact r.mono o
 ·intro _ _ _ h' y
  show K (.tuple #[.string (bs (C0 (evV (tU c n) (fun _=>rv (C0 x)) 1 (tU c n).length))),I 0]) h'
  rw [e]
  exact hK h' y r
end
def yR(d:Rat)(k:Nat):Rat:=(dy (1/d*2^k):Rat)/2^k
def Yt(v:Rat):dy v=v.floor\/dy v=v.floor+1:=by
 unfold dy
 split
 ·exact .inr rfl
 ·exact .inl rfl
def C3f{d:Rat}{k:Nat}(hd:Sz 48400 d)(h0:d≠0)(hk:k<=60):Sz 58400 (yR d k):=by
 have b:Sz 48440 (1/d):=((⟨ZB.one (aU 1),ZB.one (aU 1)⟩:Sz 1 (1:Rat)).div hd o).mono o
 have a:=(b.mul (L6 k)).mono (show _<=53280 from o)
 have c:ZB 53320 (dy (1/d*2^k)):=by
  rcases Yt (1/d*2^k) with e|e
  ·rw [e];exact (Bm a).mono o
  ·rw [e];exact ((Bm a).add (ZB.one o)).mono o
 unfold yR
 refine (((Sz.int c o).div (L6 k) o)).mono ?_
 omega
section
variable {h:aP} {K:VP} {S B:Option aX} {c:Nat->Rat} {n sc bc:Nat} {x:Rat}
def Un{k:Nat}(gl:Gl h)(sy:Sys h S c n)(hn:n<=4)(hs:∀ i,i<n->Sz 20 (c i))(mx:SlV h B [.string (bs (C0 x))])(hx:Sz 2800 x)(hk:k<=60)
 (hK0:sQ c x n=0->∀ h',h.le h'->K (.tuple #[.slice none 0 0,I 7]) h')
 (hK1:sQ c x n≠0->Sz 58400 (yR (sQ c x n) k)->∀ Y yc C cc h',h.le h'->SlV h' Y [.slice C 1 cc]->SlV h' C [.string (bs (C0 (yR (sQ c x n) k)))]->K (.tuple #[.slice Y 1 yc,I 0]) h'):aR prog 66 #[.slice S 1 sc,.slice B 1 bc,I (k:Int)] h K:=by
 refine (fnk func66 [(4,[28],[(9,3)],[I 0,I 0,I 0,.slice none 0 0]),(16,[60],[],[I 0]),(19,[64],[],[I 0])] (own:=[9,11,14])) ?_
 obtain ⟨A,tc,sv,pa⟩:=sy
 obtain ⟨a,rfl,c0,c1⟩:=U2 sv
 refine ⟨fun L d=>(L=[I 0,I 1,I 1,.slice none 0 0]/\d=h)\/(∃ V vc,L=[I 1,I 1,I 1,.slice V 1 vc]/\h.le d/\SlV d V [.string (bs (C0 (sQ c x n)))]/\Sz 48400 (sQ c x n)),fun L _=>(1-iAt L 0).toNat,.inl ⟨rfl,rfl⟩,?_⟩
 rintro t v0 v1 ag ah af d (⟨g,rfl⟩|⟨V,vc,g,lp,sV,l⟩)
 ·simp only [aJ,aO,bF,true_and,and_true] at g
  obtain ⟨rfl,rfl,rfl,rfl,rfl,rfl⟩:=g
  refine B4 (fun _=>?_) (fun hz=>oo)
  refine ⟨a,rfl,oo,oo,_,_,_,_,c0,c1,?_⟩
  refine Ly gl pa oo hs mx hx ?_
  intro E l1 l
  refine ⟨_,_,rfl,D6 (fun e=>absurd rfl e) (fun _=>?_)⟩
  refine Xl (ty:=22) P9 (PrivF.nil E 9 none:PrivF E E 9 none 0 ([]:List (List UInt8))) (y:=C0 (sQ c x n)) rfl dc (by simp) (by simp) ?_
  intro A5 c5 h5 g5 l5 p5
  rw [Jq]
  exact ⟨.inr ⟨A5,c5,rfl,A0 l1 (A0 l5 p5.le),p5.sl,l.mono oo⟩,W8⟩
 ·simp only [aJ,aO,bF,true_and,and_true] at g
  obtain ⟨rfl,rfl,rfl,rfl,rfl,rfl⟩:=g
  refine B4 (fun w=>oo) (fun _=>?_)
  have s:=gl.mono lp
  have mk:MOk 1 1 1 (fun _=>C0 (sQ c x n)) 1 1:=⟨rfl,rfl,oo,oo,oo,oo,rfl,fun _ _=>⟨_,rfl⟩⟩
  have tl:=X6 l
  refine Ye (m:=48400) (la:=fun _=>C0 (sQ c x n)) s (A4o sV) oo (fun _ _=>oo) (fun _ _=>by rw [C2];exact l) oo (fun q mq=>?_) ?_
  ·have:q=1:=by have:=mq.er;omega
   subst this
   unfold bnd;omega
  intro o io A6 c6 u l6 r6
  refine ⟨_,_,_,_,_,_,rfl,?_⟩
  have D:=A0 lp l6
  have H:rvs (fun _=>C0 (sQ c x n)) 0=sQ c x n:=C2 _
  rcases io with ⟨E,_⟩|⟨_,h2,_⟩|⟨q,mq,⟨ok,rfl⟩|⟨ad,rfl⟩⟩
  ·exact absurd ⟨_,_,mk⟩ E
  ·exact absurd rfl h2
  ·have T:q=1:=by have:=mq.er;omega
   subst T
   have F:sQ c x n≠0:=by rw [<- H];exact (B5u _).1 ok
   refine D6 (fun e=>absurd rfl e) (fun _=>?_)
   refine D8 C5w (zx:=(⟨none,0,0⟩:HV)) rfl oo oo oo oo ?_
   intro b hb
   have G:Sep (W9 138 u b (aC 1 (⟨none,0,0⟩:HV))) u (J8.put b (.cells ((aC 1 (⟨none,0,0⟩:HV)).flatMap enc).toArray 138)):=F1 hb
   refine ⟨_,_,_,rfl,fun L d=>(L=[I 0]/\d=W9 138 u b (aC 1 (⟨none,0,0⟩:HV)))\/(L=[I 1]/\u.le d/\∃ C cc,SlV d (some ⟨b,0,none⟩) [.slice C 1 cc]/\SlV d C [.string (bs (C0 (yR (sQ c x n) k)))]),fun L _=>(1-iAt L 0).toNat,.inl ⟨rfl,rfl⟩,?_⟩
   have O:=C3f l F hk
   rintro t R (⟨g,rfl⟩|⟨g,r,C,cc,x1,x2⟩)
   ·obtain rfl:t=0:=by simpa using g
    refine B4 (fun _=>?_) (fun hz=>oo)
    refine ⟨fun L d=>(L=[I 0]/\d=W9 138 u b (aC 1 (⟨none,0,0⟩:HV)))\/(L=[I 1]/\u.le d/\∃ C cc,SlV d (some ⟨b,0,none⟩) [.slice C 1 cc]/\SlV d C [.string (bs (C0 (yR (sQ c x n) k)))]),fun L _=>(1-iAt L 0).toNat,.inl ⟨rfl,rfl⟩,?_⟩
    rintro t R (⟨g,rfl⟩|⟨g,r,C,cc,x1,x2⟩)
    ·obtain rfl:t=0:=by simpa using g
     refine B4 (fun _=>?_) (fun hz=>oo)
     have ef:A6j (A3o (rvs fun _=>C0 (sQ c x n)) 1) 1 0=C0 (1/sQ c x n):=by
      have:=B8a (rvs fun _=>C0 (sQ c x n)) (by rw [H];exact F)
      rw [H] at this
      show C0 (A3o _ 1 0 0)=_
      rw [this]
     have si:Sz 48440 (1/sQ c x n):=((⟨ZB.one (aU 1),ZB.one (aU 1)⟩:Sz 1 (1:Rat)).div l oo).mono oo
     have ae:=X6 si
     have fl:∀ i,i<1*1->A6j (A3o (rvs fun _=>C0 (sQ c x n)) 1) 1 i=C0 (1/sQ c x n):=fun i M=>by
      have:i=0:=oo
      subst this
      exact ef
     refine B3p (rows:=1) (cols:=1) (i:=0) (j:=0) (la:=A6j (A3o (rvs fun _=>C0 (sQ c x n)) 1) 1) (s.mono (A0 l6 G.le)) (r6.mono Jc G.le) (by show 1*1<=1000000;decide) (fun i M=>by rw [fl i M];omega) ⟨rfl,rfl,oo,oo,oo,oo,rfl,fun i M=>⟨_,fl i M⟩⟩ oo oo ⟨_,rfl,?_⟩
     rw [show A6j (A3o (rvs fun _=>C0 (sQ c x n)) 1) 1 (0*1+0)=C0 (1/sQ c x n) from ef]
     refine Ys (mq:=48440) (s.mono (A0 l6 G.le)) (Tx.of si oo) oo (fun p=>absurd ⟨_,rfl⟩ p) (fun _ p=>absurd ⟨oo,oo⟩ p) (fun _ W ek _=>?_)
     obtain rfl:W=k:=oo
     rw [C2]
     refine ⟨_,_,rfl,D6 (fun e=>absurd rfl e) (fun _=>?_)⟩
     have N:=G.cell (RowB.cell (RowX.mk (o:=J8) (b:=b) (xs:=aC 1 (⟨none,0,0⟩:HV)) (e:=138)).rowB (i:=0) dc (j:=0) (v:=.slice none 0 0) rfl)
     refine ⟨_,rfl,oo,oo,_,_,_,N,?_⟩
     have ab:cO (J8.put b (.cells ((aC 1 (⟨none,0,0⟩:HV)).flatMap enc).toArray 138)) 140 none 0 ([]:List (List UInt8)):=OwnSl.nil
     refine Q5 (ty:=138) tNs G ab rfl (v:=.string (bs (C0 (yR (sQ c x n) W)))) (y:=C0 (yR (sQ c x n) W)) rfl dc (by simp) (by simp) ?_
     intro A8 c8 h8 g8 o8 l8 s8 aa keep
     obtain ⟨kb,kA⟩:=keep b _ (B8 _ _ _) (by simp)
     refine ⟨_,rfl,oo,oo,?_⟩
     have X:RowX o8 b (aC 1 (⟨none,0,0⟩:HV)):=⟨_,kb⟩
     refine E7 B2k (y:=(⟨A8,1,c8⟩:HV)) rfl s8 X (i:=0) dc ?_
     rintro h9 o9 x9 rfl Q r9
     rw [Jq]
     have ac:=aa.keep (o':=o8.put b x9) fun bA y e hy=>by
      rw [B6 _ _ (by rintro rfl;exact kA e)]
      exact hy
     exact ⟨.inr ⟨rfl,A0 l8 Q.le,A8,c8,r9.rowB.slF Q.ole,ac.slF Q.ole⟩,W8⟩
    ·obtain rfl:t=1:=by simpa using g
     refine B4 (fun w=>oo) (fun _=>?_)
     rw [Jq]
     exact ⟨.inr ⟨rfl,r,C,cc,x1,x2⟩,W8⟩
   ·obtain rfl:t=1:=by simpa using g
    exact B4 (fun w=>oo) (fun _=>hK1 F O _ _ C cc _ (A0 D r) x1 x2)
  ·have T:q=1:=by have:=mq.er;omega
   subst T
   have F:sQ c x n=0:=by
    rcases Decidable.em (sQ c x n=0) with z|z
    ·exact z
    ·exact absurd ((B5u (rvs fun _=>C0 (sQ c x n))).2 (by rw [H];exact z)) ad
   exact D6 (fun _=>hK0 F _ D) (fun e=>absurd e dc)
end
def kr1(Y gl gh:Rat):Rat × Rat:=(1+L7 (L7 Y Y gl gh) (L8 Y Y gl gh) (-1) (-1),1+L8 (L7 Y Y gl gh) (L8 Y Y gl gh) (-1) (-1))
def kr2(a b m Y v gl gh:Rat):Rat × Rat:=(m-Y*v+L7 (kr1 Y gl gh).1 (kr1 Y gl gh).2 (a + -m) (b + -m),m-Y*v+L8 (kr1 Y gl gh).1 (kr1 Y gl gh).2 (a + -m) (b + -m))
def kr3(a b m Y v gl gh:Rat)(k:Nat):Rat × Rat:=((((kr2 a b m Y v gl gh).1*2^k).floor:Rat)/2^k,(((kr2 a b m Y v gl gh).2*2^k).ceil:Rat)/2^k)
def C1y{a b m y v gl gh:Rat}{k:Nat}(h1:Sz 338800 (kr2 a b m y v gl gh).1)(h2:Sz 338800 (kr2 a b m y v gl gh).2)(hk:k<=60):Sz 400000 (kr3 a b m y v gl gh k).1/\Sz 400000 (kr3 a b m y v gl gh k).2:=by
 have c:=Bm (h1.mul (L6 k))
 have d:ZB (338800+(2*k+1)) ((kr2 a b m y v gl gh).2*2^k).ceil:=by
  rw [Rat.ceil_eq_neg_floor_neg]
  exact (Bm (h2.mul (L6 k)).neg).neg
 exact ⟨((Sz.int c o).div (L6 k) o).mono o,((Sz.int d o).div (L6 k) o).mono o⟩
def Dw{a b c d:Rat}:L7 a b c d<=L8 a b c d:=B5r
def A9h{m n:Nat}{a b c d:Rat}(ha:Sz m a)(hb:Sz m b)(hc:Sz n c)(hd:Sz n d):Sz (m+n) (L7 a b c d)/\Sz (m+n) (L8 a b c d):=by
 have g:=ha.mul hc
 have i:=ha.mul hd
 have k:=hb.mul hc
 have j:=hb.mul hd
 exact ⟨Sz.mnL g fun q e=>by simp at e;rcases e with rfl|rfl|rfl<;>assumption,Sz.mxL g fun q e=>by simp at e;rcases e with rfl|rfl|rfl<;>assumption⟩
def B2m:Sz 1 (-1:Rat):=by
 have:Sz 1 (1:Rat):=⟨ZB.one (aU 1),ZB.one (aU 1)⟩
 exact this.neg
section
variable {h:aP} {K:VP} {B M Y S V C:Option aX} {bc mc yc sc vc cc:Nat} {a b m y v gl gh:Rat}
def Sh{k:Nat}(g0:Gl h)(sb:SlV h B [.string (bs (C0 a)),.string (bs (C0 b))])(sm:SlV h M [.string (bs (C0 m))])(sy:SlV h Y [.slice C 1 cc])(sy2:SlV h C [.string (bs (C0 y))])(ss:Rv1 h S (C0 gl) (C0 gh))(sv:SlV h V [.string (bs (C0 v))])
 (za:Sz 1600 a) (zb:Sz 1600 b) (zm:Sz 2800 m) (zy:Sz 58400 y) (zl:Sz 154120 gl) (zh:Sz 154120 gh) (zv:Sz 60440 v) (hab:a<=b) (hg:gl<=gh) (hk:k<=60)
 (hK:∀ I' ic h',h.le h'->Sz 400000 (kr3 a b m y v gl gh k).1->Sz 400000 (kr3 a b m y v gl gh k).2->SlV h' I' [.string (bs (C0 (kr3 a b m y v gl gh k).1)),.string (bs (C0 (kr3 a b m y v gl gh k).2))]->K (.tuple #[.slice I' 1 ic,I 0]) h'):
 aR prog 69 #[.slice B 1 bc,.slice M 1 mc,.slice Y 1 yc,.slice S 1 sc,.slice V 1 vc,I (k:Int)] h K:=by
 refine (fnk func69 [(4,[36],[],[I 0]),(7,[40],[],[I 0]),(17,[71],[],[I 0]),(24,[97],[],[I 0])] (os:=[(26,[0,1,2,3,4,5,6,7,10,8,9,11]),(27,[0,1,2,3,4,6,11,5,7,8,9,10,12,13])]) (own:=[18,21,26,27])) ?_
 refine A0x sy sy2 ?_
 intro b1 h1 r1
 have l1:=r1.le
 refine ⟨_,_,_,rfl,?_⟩
 have zP:=A9h zy zy zl zh
 have hP:L7 y y gl gh<=L8 y y gl gh:=Dw
 refine Um (m:=154120) (g0.mono l1) r1.read (ss.mono l1) (zy.mono o) (zy.mono o) zl zh o aQ hg ?_
 intro b2 h2 r2
 refine ⟨_,_,_,rfl,?_⟩
 have zM:=A9h zP.1 zP.2 B2m B2m
 have z1:Sz 1 (1:Rat):=⟨ZB.one (aU 1),ZB.one (aU 1)⟩
 have Q:Sz 212640 (kr1 y gl gh).1:=(z1.add zM.1).mono o
 have ad:Sz 212640 (kr1 y gl gh).2:=(z1.add zM.2).mono o
 have F:(kr1 y gl gh).1<=(kr1 y gl gh).2:=by
  have:=Dw (a:=L7 y y gl gh) (b:=L8 y y gl gh) (c:= -1) (d:= -1)
  unfold kr1;grind
 have l2:=A0 l1 r2.le
 obtain ⟨g2,o2,AR,cR,aj,s2,rx,ow,ae⟩:=r2.ex
 obtain ⟨bi,rfl,D⟩:=ow.rowB (by simp)
 have ak:b2≠bi:=by rintro rfl;exact ae rfl
 have H:h.le h2:=l2
 refine ⟨fun L s=>(L=[I 0]/\s=h2)\/(L=[I 1]/\h.le s/\Rv1 s (some ⟨b2,0,none⟩) (C0 (kr1 y gl gh).1) (C0 (kr1 y gl gh).2)),fun L _=>(1-iAt L 0).toNat,.inl ⟨rfl,rfl⟩,?_⟩
 rintro t s (⟨l,rfl⟩|⟨l,T,A⟩)
 ·obtain rfl:t=0:=by simpa using l
  refine B4 (fun _=>?_) (fun hz=>o)
  refine ⟨fun L u=>(L=[I 0]/\u=s)\/(L=[I 1]/\h.le u/\Rv1 u (some ⟨b2,0,none⟩) (C0 (kr1 y gl gh).1) (C0 (kr1 y gl gh).2)),fun L _=>(1-iAt L 0).toNat,.inl ⟨rfl,rfl⟩,?_⟩
  rintro t2 W (⟨w,rfl⟩|⟨w,T,A⟩)
  ·obtain rfl:t2=0:=by simpa using w
   refine B4 (fun _=>?_) (fun hz=>o)
   refine W4 (x:=[48]) ⟨_,_,rfl,C8 (fun _=>?_) (fun e=>absurd rfl e)⟩
   refine W4 (x:=[49]) ⟨_,_,rfl,?_⟩
   have hc:=s2.cell (RowB.cell rx.rowB (i:=0) (by simp) (j:=0) (v:=.slice (some ⟨bi,0,none⟩) 1 cR) rfl)
   have d0:=s2.cell (RowB.cell D (i:=0) (by simp) (j:=0) (v:=.string (bs (C0 (L7 y y gl gh)))) rfl)
   have d1:=s2.cell (RowB.cell D (i:=0) (by simp) (j:=1) (v:=.string (bs (C0 (L8 y y gl gh)))) rfl)
   refine ⟨_,rfl,o,o,_,_,_,hc,_,rfl,o,o,_,_,_,hc,_,rfl,o,o,_,_,d0,d1,?_⟩
   refine W4 (x:=[45,49]) ⟨_,_,rfl,B0 _,?_⟩
   have am:ivT [45,49] [45,49]=ivS (-1) (-1):=by show _=ivT (C0 (-1)) (C0 (-1));rw [B9r]
   have e1:ivT [49] [49]=ivS 1 1:=by show _=ivT (C0 1) (C0 1);rw [A97]
   show aR prog 152 #[ivS (L7 y y gl gh) (L8 y y gl gh),ivT [45,49] [45,49]] W _
   rw [am]
   refine Py (m:=212560) (g0.mono H) (zP.1.mono o) (zP.2.mono o) (B2m.mono o) (B2m.mono o) o hP aQ ⟨_,_,rfl,B0 _,?_⟩
   show aR prog 151 #[ivT [49] [49],ivS (L7 (L7 y y gl gh) (L8 y y gl gh) (-1) (-1)) (L8 (L7 y y gl gh) (L8 y y gl gh) (-1) (-1))] W _
   rw [e1]
   refine Ka (m:=212640) (g0.mono H) (z1.mono o) (z1.mono o) (zM.1.mono o) (zM.2.mono o) o aQ Dw ⟨_,_,rfl,B0 _,_,rfl,o,o,?_⟩
   have a0:aN ⟨bi,0,none⟩ ((0:Int).toNat*2)=⟨bi,0,none⟩:=rfl
   rw [a0]
   refine Sep.store Wy (y:=((C0 (kr1 y gl gh).1,C0 (kr1 y gl gh).2):Ivl)) rfl s2 D (i:=0) (by simp) rfl ?_
   rintro h5 o5 x5 rfl E ai
   rw [Jq]
   have al:=rx.other ak x5
   exact ⟨.inr ⟨rfl,A0 (A0 l1 aj) E.le,some ⟨bi,0,none⟩,cR,al.rowB.slF E.ole,ai.slF E.ole⟩,W8⟩
  ·obtain rfl:t2=1:=by simpa using w
   refine B4 (fun z=>o) (fun _=>?_)
   rw [Jq]
   exact ⟨.inr ⟨rfl,T,A⟩,W8⟩
 ·obtain rfl:t=1:=by simpa using l
  refine B4 (fun z=>o) (fun _=>?_)
  have gp:=g0.mono T
  refine D8 tSs (zx:=(([],[]):Ivl)) rfl o o o o ?_
  intro b3 ah
  have s3:Sep (W9 221 s b3 (aC 1 (([],[]):Ivl))) s (J8.put b3 (.cells ((aC 1 (([],[]):Ivl)).flatMap enc).toArray 221)):=F1 ah
  have O:Sz 4440 (a + -m):=(za.add zm.neg).mono o
  have X:Sz 4440 (b + -m):=(zb.add zm.neg).mono o
  refine ⟨_,_,_,rfl,fun L u=>(L=[I 0]/\u=W9 221 s b3 (aC 1 (([],[]):Ivl)))\/(L=[I 1]/\s.le u/\SlV u (some ⟨b3,0,none⟩) [.string (bs (C0 (a + -m))),.string (bs (C0 (b + -m)))]),fun L _=>(1-iAt L 0).toNat,.inl ⟨rfl,rfl⟩,?_⟩
  rintro t u (⟨l,rfl⟩|⟨l,lq,so⟩)
  ·obtain rfl:t=0:=by simpa using l
   refine B4 (fun _=>?_) (fun hz=>o)
   have r:=A0 T s3.le
   obtain ⟨aB,rfl,c0,c1⟩:=U2 (sb.mono r)
   obtain ⟨aM,rfl,m0⟩:=Fl (sm.mono r)
   have tm:=X6 zm
   refine ⟨_,rfl,o,o,_,_,c0,c1,_,rfl,o,o,_,m0,A7w (g0.mono r) o ⟨_,rfl,B0 _,W4 ⟨_,_,rfl,B0 _,?_⟩⟩⟩
   rw [C2]
   refine Ka (m:=2800) (g0.mono r) (za.mono o) (zb.mono o) zm.neg zm.neg o hab aQ ⟨_,_,rfl,B0 _,_,rfl,o,o,?_⟩
   refine E7 Wy (y:=((C0 (a + -m),C0 (b + -m)):Ivl)) rfl s3 (RowX.mk (e:=221)) (i:=0) dc ?_
   rintro h5 o5 x5 rfl E r5
   rw [Jq]
   exact ⟨.inr ⟨rfl,E.le,r5.rowB.slF E.ole⟩,W8⟩
  ·obtain rfl:t=1:=by simpa using l
   refine B4 (fun z=>o) (fun _=>?_)
   have g:=A0 T lq
   refine A13 (m:=60440) (g0.mono g) (sy.mono g) (sy2.mono g) (sv.mono g) (zy.mono o) zv o ?_
   intro A6 h6 l6 s6
   refine ⟨_,_,_,rfl,?_⟩
   have R:=A0 g l6
   refine A0z (m:=212640) (g0.mono R) ((A.mono lq).mono l6) (so.mono l6) Q ad (O.mono o) (X.mono o) o F gz0 ?_
   intro A7 h7 l7 s7
   refine ⟨_,_,_,rfl,?_⟩
   have aa:=A0 R l7
   have zs:=A9h Q ad O X
   have G:=(zy.mul zv)
   have zc:Sz 121680 (m-y*v):=(zm.sub G).mono o
   refine D8 A79 (zx:=(([],[]):Ivl)) rfl o o o o ?_
   intro b8 af
   have s8:Sep (W9 24 h7 b8 (aC 1 (([],[]):Ivl))) h7 (J8.put b8 (.cells ((aC 1 (([],[]):Ivl)).flatMap enc).toArray 24)):=F1 af
   refine ⟨_,_,_,rfl,fun L F=>(L=[I 0]/\F=W9 24 h7 b8 (aC 1 (([],[]):Ivl)))\/(L=[I 1]/\h7.le F/\(Sz 400000 (kr3 a b m y v gl gh k).1/\Sz 400000 (kr3 a b m y v gl gh k).2)/\SlV F (some ⟨b8,0,none⟩) [.string (bs (C0 (kr3 a b m y v gl gh k).1)),.string (bs (C0 (kr3 a b m y v gl gh k).2))]),fun L _=>(1-iAt L 0).toNat,.inl ⟨rfl,rfl⟩,?_⟩
   rintro t F (⟨l,rfl⟩|⟨l,lr,zz,si⟩)
   ·obtain rfl:t=0:=by simpa using l
    refine B4 (fun _=>?_) (fun hz=>o)
    have n:=A0 aa s8.le
    obtain ⟨aM,rfl,m0⟩:=Fl (sm.mono n)
    obtain ⟨a6,rfl,y0⟩:=Fl ((s6.mono l7).mono s8.le)
    obtain ⟨a7,rfl,w0,w1⟩:=U2 (s7.mono s8.le)
    refine ⟨_,rfl,o,o,_,m0,_,rfl,o,o,_,y0,Rr (m:=121680) (g0.mono n) (Tx.of (zm.mono o) o) (Tx.of (G.mono o) o) o ⟨_,rfl,B0 _,W4 ⟨_,_,rfl,B0 _,_,rfl,o,o,_,_,w0,w1,?_⟩⟩⟩
    rw [C2,C2]
    refine Ka (m:=217080) (g0.mono n) (zc.mono o) (zc.mono o) (zs.1.mono o) (zs.2.mono o) o aQ Dw ⟨_,_,rfl,B0 _,?_⟩
    have ac:Sz 338800 (kr2 a b m y v gl gh).1:=(zc.add zs.1).mono o
    have ab:Sz 338800 (kr2 a b m y v gl gh).2:=(zc.add zs.2).mono o
    have ag:(kr2 a b m y v gl gh).1<=(kr2 a b m y v gl gh).2:=by
     have:=Dw (a:=(kr1 y gl gh).1) (b:=(kr1 y gl gh).2) (c:=a + -m) (d:=b + -m)
     unfold kr2;grind
    refine A3n (lo:=C0 (kr2 a b m y v gl gh).1) (hi:=C0 (kr2 a b m y v gl gh).2) (m:=338800) (g0.mono n) (Tx.of ac o) (Tx.of ab o) o o (fun p q k' e1 e2 _ ek _=>?_) (fun _ N=>o) (fun N=>absurd ⟨_,_,rfl,rfl,ag⟩ N)
    obtain rfl:=E8 e1
    obtain rfl:=E8 e2
    obtain rfl:k'=k:=o
    refine ⟨_,_,_,rfl,B0 _,D6 (fun e=>absurd rfl e) (fun _=>⟨_,rfl,o,o,?_⟩)⟩
    refine E7 Rc (y:=((C0 (kr3 a b m y v gl gh k').1,C0 (kr3 a b m y v gl gh k').2):Ivl)) rfl s8 (RowX.mk (e:=24)) (i:=0) dc ?_
    rintro h9 o9 x9 rfl s9 r9
    rw [Jq]
    exact ⟨.inr ⟨rfl,s9.le,C1y ac ab hk,r9.rowB.slF s9.ole⟩,W8⟩
   ·obtain rfl:t=1:=by simpa using l
    exact B4 (fun z=>o) (fun _=>hK _ _ _ (A0 aa lr) zz.1 zz.2 si)
end
structure Cs (c:Nat->Rat) (n:Nat):Prop where
 n1:1<=n
 n5:n<=5
 len:∀ i,i<n->(C0 (c i)).length<=4
 sz:∀ i,i<n->Sz 16 (c i)
def Cs.dlen{c:Nat->Rat}{n:Nat}(s:Cs c n):∀ i,i<n-1->(C0 (dC c i)).length<=8:=fun i a=>by
 have:=s.n5
 exact B6f (s.len (i+1) o) o
def Cs.dsz{c:Nat->Rat}{n:Nat}(s:Cs c n):∀ i,i<n-1->Sz 20 (dC c i):=fun i a=>by
 have:=s.n5
 refine ((s.sz (i+1) o).mul (Sz.int (m:=4) ?_ o)).mono o
 unfold ZB;omega
def C65{x y z:Rat}(h1:x<y)(h2:y<=z):x<z:=gz0
def C67{x y z:Rat}(h1:x<=y)(h2:y<z):x<z:=gz0
def Sd(k:Nat):(0:Rat)<2^k:=by
 induction k with
 | zero=>rw [cH];grind
 | succ k ih=>rw [bL];exact bG ih gz0
def Tf(x:Rat)(k:Nat):x*2^k/2^k=x:=by
 have h:=Sd k
 rw [cM,cN,bX _ gz0,Rat.mul_one]
def Wa{x y:Rat}(k:Nat)(h:x<=y):x/2^k<=y/2^k:=by
 have a:=Sd k
 have b:(0:Rat)<(2^k)⁻¹:=Rat.inv_pos.2 a
 rw [cM,cM]
 have:=aI (show 0<=y-x from gz0) (aH b)
 grind
def A9q(a b m y v gl gh:Rat)(k:Nat):(kr3 a b m y v gl gh k).1<=(kr2 a b m y v gl gh).1:=by
 have:=Wa k (dP ((kr2 a b m y v gl gh).1*2^k))
 rw [Tf] at this
 exact this
def A9r(a b m y v gl gh:Rat)(k:Nat):(kr2 a b m y v gl gh).2<=(kr3 a b m y v gl gh k).2:=by
 have:=Wa k (Rat.le_ceil (x:=(kr2 a b m y v gl gh).2*2^k))
 rw [Tf] at this
 exact this
def mid(a b:Rat):Rat:=(a+b)*(1/2)
def imR(c:Nat->Rat)(n:Nat)(a b:Rat)(k:Nat):Rat × Rat:=kr3 a b (mid a b) (yR (sQ (dC c) (mid a b) (n-1)) k) (sQ c (mid a b) n) (evQ (dC c) a b (n-1)).1 (evQ (dC c) a b (n-1)).2 k
def B1y(c:Nat->Rat)(n:Nat)(a b:Rat)(k:Nat):Bool:=decide (sQ (dC c) (mid a b) (n-1)≠0/\a<(imR c n a b k).1/\(imR c n a b k).2<b)
def exB(c:Nat->Rat)(n:Nat)(a b:Rat):Bool:=decide (¬ ((evQ c a b n).1<=0/\0<=(evQ c a b n).2))
def VerO(c:Nat->Rat)(n:Nat)(a b:Rat):Prop:=∃ m Y gl gh:Rat,a<=m/\m<=b/\(∀ z,a<=z->z<=b->gl<=sQ (dC c) z (n-1)/\sQ (dC c) z (n-1)<=gh)/\
 ∀ g x,gl<=g->g<=gh->a<=x->x<=b->a<m-Y*sQ c m n+(1-Y*g)*(x-m)/\m-Y*sQ c m n+(1-Y*g)*(x-m)<b
def C5r(c:Nat->Rat)(n:Nat)(a b:Rat):Prop:=∃ gl gh:Rat,(∀ z,a<=z->z<=b->gl<=sQ c z n/\sQ c z n<=gh)/\(0<gl\/gh<0)
def A7i{c:Nat->Rat}{n:Nat}{a b:Rat}{k:Nat}(hab:a<=b)(h:B1y c n a b k=true):VerO c n a b:=by
 obtain ⟨_,u,q⟩:=of_decide_eq_true h
 refine ⟨mid a b,yR (sQ (dC c) (mid a b) (n-1)) k,(evQ (dC c) a b (n-1)).1,(evQ (dC c) a b (n-1)).2,by unfold mid;grind,by unfold mid;grind,fun z r l=>B0f r l,?_⟩
 intro g x p i s w
 have e:=A9q a b (mid a b) (yR (sQ (dC c) (mid a b) (n-1)) k) (sQ c (mid a b) n) (evQ (dC c) a b (n-1)).1 (evQ (dC c) a b (n-1)).2 k
 have j:=A9r a b (mid a b) (yR (sQ (dC c) (mid a b) (n-1)) k) (sQ c (mid a b) n) (evQ (dC c) a b (n-1)).1 (evQ (dC c) a b (n-1)).2 k
 have d:=A54 (a:=a) (b:=b) (m:=mid a b) (Y:=yR (sQ (dC c) (mid a b) (n-1)) k) (v:=sQ c (mid a b) n) hab (B0e (dC c) a b (n-1)) e j g x p i s w
 exact ⟨C65 u d.1,C67 d.2 q⟩
def C29{c:Nat->Rat}{n:Nat}{a b:Rat}(h:exB c n a b=true):C5r c n a b:=by
 have g:=of_decide_eq_true h
 refine ⟨_,_,fun z d e=>B0f d e,?_⟩
 by_cases d:0<(evQ c a b n).1
 ·exact .inl d
 ·by_cases e:(evQ c a b n).2<0
  ·exact .inr e
  ·exact absurd ⟨Rat.not_lt.1 d,Rat.not_lt.1 e⟩ g
section
variable {h:aP} {K:VP} {S B A:Option aX} {c:Nat->Rat} {n sc bc ac:Nat} {a b:Rat}
def Pz{k:Nat}(g0:Gl h)(sy:Sys h S c n)(cs:Cs c n)(sb:SlV h B [.string (bs (C0 a)),.string (bs (C0 b))])(za:Sz 1280 a)(zb:Sz 1280 b)(ta:(C0 a).length<=800)(tb:(C0 b).length<=800)(hab:a<=b)(hk1:1<=k)(hk:k<=60)
 (hK0:sQ (dC c) (mid a b) (n-1)=0->∀ h',h.le h'->K (.tuple #[.slice none 0 0,I 7]) h')
 (hK1:sQ (dC c) (mid a b) (n-1)≠0->∀ I' ic h',h.le h'->Sz 400000 (imR c n a b k).1->Sz 400000 (imR c n a b k).2->
  SlV h' I' [.string (bs (C0 (imR c n a b k).1)),.string (bs (C0 (imR c n a b k).2))]->K (.tuple #[.slice I' 1 ic,I 0]) h'):
 aR prog 24 #[.slice S 1 sc,.slice B 1 bc,I (k:Int)] h K:=by
 have ac:=cs.n1
 have ab:=cs.n5
 refine (fnk func24 [(11,[46],[],[I 0]),(23,[81],[],[I 0])] (own:=[13,18])) ?_
 refine Hi (m:=1280) g0 sy o (fun i D=>by have:=cs.len i D;omega) sb za zb o hab ?_
 intro h1 l1
 refine ⟨_,rfl,D6 (fun e=>absurd rfl e) (fun _=>B4 (fun e=>o) (fun _=>B4 (fun e=>o) (fun _=>?_)))⟩
 refine Si (m:=16) (g0.mono l1) (sy.mono l1) o (fun i D=>by have:=cs.len i D;omega) cs.sz o o ?_
 intro J jc F l2 sj
 refine ⟨_,_,_,_,rfl,D6 (fun e=>absurd rfl e) (fun _=>?_)⟩
 have w:=A0 l1 l2
 have X:Sz 2680 (mid a b):=((za.add zb).mul Su).mono o
 refine D8 P9 (zx:=([]:List UInt8)) rfl o o o o ?_
 intro H aa
 have s3:Sep (W9 9 F H (aC 1 ([]:List UInt8))) F (J8.put H (.cells ((aC 1 ([]:List UInt8)).flatMap enc).toArray 9)):=F1 aa
 refine ⟨_,_,_,rfl,fun L M=>(L=[I 0]/\M=W9 9 F H (aC 1 ([]:List UInt8)))\/(L=[I 1]/\F.le M/\SlV M (some ⟨H,0,none⟩) [.string (bs (C0 (mid a b)))]),fun L _=>(1-iAt L 0).toNat,.inl ⟨rfl,rfl⟩,?_⟩
 rintro t M (⟨r,rfl⟩|⟨r,T,sm⟩)
 ·obtain rfl:t=0:=by simpa using r
  refine B4 (fun _=>?_) (fun hz=>o)
  have E:=A0 w s3.le
  obtain ⟨aB,rfl,c0,c1⟩:=U2 (sb.mono E)
  refine ⟨_,rfl,o,o,_,_,c0,c1,A1b (m:=1280) (g0.mono E) (Tx.of za o) (Tx.of zb o) o o (fun p q e1 e2 _=>⟨_,rfl,_,rfl,o,o,?_⟩) (fun O=>absurd ⟨_,_,rfl,rfl,hab⟩ O)⟩
  obtain rfl:=E8 e1
  obtain rfl:=E8 e2
  refine E7 Am (y:=C0 (mid a b)) rfl s3 (RowX.mk (e:=9)) (i:=0) dc ?_
  rintro x o5 x5 rfl s5 r5
  rw [Jq]
  exact ⟨.inr ⟨rfl,s5.le,r5.rowB.slF s5.ole⟩,W8⟩
 ·obtain rfl:t=1:=by simpa using r
  refine B4 (fun R=>o) (fun _=>?_)
  have d:=A0 w T
  refine Un (g0.mono d) (sj.mono T) o cs.dsz sm (X.mono o) hk (fun d0 h4 u=>?_) (fun d0 zy Y yc C cc h4 u y1 y2=>?_)
  ·exact ⟨_,_,_,_,rfl,D6 (fun _=>hK0 d0 _ (A0 d u)) (fun e=>absurd e dc)⟩
  refine ⟨_,_,_,_,rfl,D6 (fun e=>absurd rfl e) (fun _=>?_)⟩
  have g:=A0 d u
  refine Od (g0.mono g) ((sj.mono T).mono u) o cs.dlen (sb.mono g) o o hab ?_
  intro bo x z zl zh
  have V:=z.le
  have s:=A0 g V
  refine ⟨_,_,_,_,rfl,D6 (fun e=>absurd rfl e) (fun _=>?_)⟩
  refine D8 tNs (zx:=([]:List UInt8)) rfl o o o o ?_
  intro G W
  have Q:Sep (W9 140 x G (aC 1 ([]:List UInt8))) x (J8.put G (.cells ((aC 1 ([]:List UInt8)).flatMap enc).toArray 140)):=F1 W
  refine ⟨_,_,_,rfl,fun L N=>(L=[I 0]/\N=W9 140 x G (aC 1 ([]:List UInt8)))\/(L=[I 1]/\x.le N/\SlV N (some ⟨G,0,none⟩) [.string (bs (C0 (sQ c (mid a b) n)))]/\Sz (1+n*12080) (sQ c (mid a b) n)),fun L _=>(1-iAt L 0).toNat,.inl ⟨rfl,rfl⟩,?_⟩
  rintro t N (⟨r,rfl⟩|⟨r,lr,sv,zv⟩)
  ·obtain rfl:t=0:=by simpa using r
   refine B4 (fun _=>?_) (fun hz=>o)
   obtain ⟨A,tc,sS,pa⟩:=sy.mono s
   obtain ⟨aS,rfl,p0,p1⟩:=U2 sS
   refine ⟨_,rfl,o,o,_,_,_,_,B7 Q.le p0,B7 Q.le p1,?_⟩
   refine Q.call (Ly (g0.mono s) pa o (fun i D=>(cs.sz i D).mono o) ((sm.mono u).mono V) (X.mono o) ?_)
   intro g7 l7 zv h7 s7
   refine ⟨_,_,rfl,D6 (fun e=>absurd rfl e) (fun _=>⟨_,rfl,o,o,?_⟩)⟩
   refine E7 A82 (y:=C0 (sQ c (mid a b) n)) rfl s7 (RowX.mk (e:=140)) (i:=0) dc ?_
   rintro h8 o8 x8 rfl s8 r8
   rw [Jq]
   exact ⟨.inr ⟨rfl,A0 l7 s8.le,r8.rowB.slF s8.ole,zv⟩,W8⟩
  ·obtain rfl:t=1:=by simpa using r
   refine B4 (fun R=>o) (fun _=>?_)
   have j:=A0 s lr
   have l:=A0 V lr
   refine Sh (g0.mono j) (sb.mono j) ((sm.mono u).mono l) (y1.mono l) (y2.mono l) (z.read.mono lr) sv (za.mono o) (zb.mono o) (X.mono o) zy (zl.mono o) (zh.mono o) (zv.mono o) hab (B0e _ _ _ _) hk ?_
   intro I' ic h9 l9 z1 z2 s9
   exact ⟨_,_,_,_,rfl,hK1 d0 I' ic _ (A0 j l9) z1 z2 s9⟩
def Xw{p q:Rat}{ic:Nat}(g0:Gl h)(si:SlV h A [.string (bs (C0 p)),.string (bs (C0 q))])(sb:SlV h B [.string (bs (C0 a)),.string (bs (C0 b))])(zp:Sz 400000 p)(zq:Sz 400000 q)(za:Sz 1280 a)(zb:Sz 1280 b)(hK:K (.bool (decide (a<p/\q<b))) h):
 aR prog 25 #[.slice A 1 ic,.slice B 1 bc] h K:=by
 refine (fnk func25 [(2,[8],[],[I 0])]) ?_
 obtain ⟨r,rfl,i0,i1⟩:=U2 si
 obtain ⟨s,rfl,c0,c1⟩:=U2 sb
 refine ⟨fun L d=>(L=[I 0]/\d=h)\/(L=[I 1]/\d=h/\a<p/\q<b),fun L _=>(1-iAt L 0).toNat,.inl ⟨rfl,rfl⟩,?_⟩
 rintro t d (⟨e,rfl⟩|⟨e,rfl,l,i⟩)
 ·obtain rfl:t=0:=by simpa using e
  refine B4 (fun _=>?_) (fun u=>o)
  refine ⟨_,rfl,o,o,_,i0,_,rfl,o,o,_,c0,K8 (m:=400000) g0 (Tx.of zp o) (Tx.of (za.mono o) o) o ⟨_,rfl,B0 _,?_⟩⟩
  rw [C2,C2]
  refine B4 (fun c=>?_) (fun c=>?_)
  ·rw [decide_eq_false (fun z=>by have:=Ht (p:=p) (q:=a);rw [this] at c;exact absurd z.1 (Rat.not_lt.2 c))] at hK
   exact hK
  have j:a<p:=by
   have:=Ht (p:=p) (q:=a)
   rw [this] at c
   exact Rat.not_le.1 c
  refine ⟨_,rfl,o,o,_,i1,_,rfl,o,o,_,c1,K8 (m:=400000) g0 (Tx.of zq o) (Tx.of (zb.mono o) o) o ⟨_,rfl,B0 _,?_⟩⟩
  rw [C2,C2]
  refine B4 (fun n=>?_) (fun n=>?_)
  ·rw [decide_eq_false (fun z=>by have:=(Fd (p:=q) (q:=b)).2 z.2;omega)] at hK
   exact hK
  have k:q<b:=(Fd (p:=q) (q:=b)).1 o
  rw [Jq]
  exact ⟨.inr ⟨rfl,rfl,j,k⟩,W8⟩
 ·obtain rfl:t=1:=by simpa using e
  exact B4 (fun g=>o) (fun _=>by rw [decide_eq_true ⟨l,i⟩] at hK;exact hK)
def Bi{k:Nat}(g0:Gl h)(sy:Sys h S c n)(cs:Cs c n)(sb:SlV h B [.string (bs (C0 a)),.string (bs (C0 b))])(za:Sz 1280 a)(zb:Sz 1280 b)(ta:(C0 a).length<=800)(tb:(C0 b).length<=800)(hab:a<=b)(hk1:1<=k)(hk:k<=60)
 (hK:∀ h',h.le h'->K (.tuple #[.bool (B1y c n a b k),I 0]) h'):aR prog 11 #[.slice S 1 sc,.slice B 1 bc,I (k:Int)] h K:=by
 refine (fnk func11) ?_
 refine Pz g0 sy cs sb za zb ta tb hab hk1 hk (fun g m d=>⟨_,_,_,_,rfl,C8 (fun _=>?_) (fun e=>absurd rfl e)⟩) (fun g I' p m d l i j=>?_)
 ·have:=hK _ d
  rw [show B1y c n a b k=false from decide_eq_false fun z=>z.1 g] at this
  exact this
 refine ⟨_,_,_,_,rfl,C8 (fun e=>absurd e dc) (fun _=>D6 (fun e=>absurd rfl e) (fun _=>?_))⟩
 refine Xw (g0.mono d) j (sb.mono d) l i za zb ⟨_,rfl,?_⟩
 have:=hK _ d
 have e:B1y c n a b k=decide (a<(imR c n a b k).1/\(imR c n a b k).2<b):=by
  unfold B1y
  by_cases z:a<(imR c n a b k).1/\(imR c n a b k).2<b
  ·rw [decide_eq_true z,decide_eq_true ⟨g,z⟩]
  ·rw [decide_eq_false z,decide_eq_false fun y=>z y.2]
 rw [e] at this
 exact this
def Sj(g0:Gl h)(sy:Sys h S c n)(cs:Cs c n)(sb:SlV h B [.string (bs (C0 a)),.string (bs (C0 b))])(za:Sz 1280 a)(zb:Sz 1280 b)(ta:(C0 a).length<=800)(tb:(C0 b).length<=800)(hab:a<=b)
 (hK:∀ h',h.le h'->K (.tuple #[.bool (exB c n a b),I 0]) h'):aR prog 12 #[.slice S 1 sc,.slice B 1 bc] h K:=by
 have G:=cs.n1
 have k:=cs.n5
 refine (fnk func12 [(5,[19],[],[I 0])] (own:=[8,9])) ?_
 refine Hi (m:=1280) g0 sy o (fun i w=>by have:=cs.len i w;omega) sb za zb o hab ?_
 intro y g
 obtain ⟨A,tc,Q,X⟩:=sy.mono g
 obtain ⟨aS,rfl,T,O⟩:=U2 Q
 refine ⟨_,rfl,D6 (fun e=>absurd rfl e) (fun _=>⟨fun L s=>(L=[I 0]/\s=y)\/(L=[I 1]/\y.le s/\(evQ c a b n).1<=0/\0<=(evQ c a b n).2),fun L _=>(1-iAt L 0).toNat,.inl ⟨rfl,rfl⟩,?_⟩)⟩
 rintro t s (⟨u,rfl⟩|⟨u,F,l⟩)
 ·obtain rfl:t=0:=by simpa using u
  refine B4 (fun _=>?_) (fun hz=>o)
  refine ⟨_,rfl,o,o,_,_,_,_,T,O,Ji (g0.mono g) X k (fun i w=>by have:=cs.len i w;omega) (sb.mono g) o o hab ?_⟩
  intro h2 C zl E
  refine ⟨_,_,_,rfl,D6 (fun e=>absurd rfl e) (fun _=>?_)⟩
  have d:=A0 g C
  refine Ur (x:=[48]) (m:=200000) (g0.mono d) (Tx.of (zl.mono o) o) (Tx.of (E.mono o) o) (by
   have:=Tx.of (m:=200000) (Sz.zero o) o
   rw [Rq] at this;exact this) o (fun p q r V N W R H=>⟨_,rfl,P6 ?_⟩) (fun j=>⟨_,rfl,Pk ?_⟩)
  ·rw [Jq]
   obtain rfl:=E8 V
   obtain rfl:=E8 N
   have M:r=0:=E8 (W.symm.trans Rq.symm)
   subst M
   exact ⟨.inr ⟨rfl,C,R,H⟩,W8⟩
  ·have:=hK _ d
   rw [show exB c n a b=true from decide_eq_true fun z=>j ⟨_,_,0,rfl,rfl,Rq.symm,z.1,z.2⟩] at this
   exact this
 ·obtain rfl:t=1:=by simpa using u
  refine B4 (fun D=>o) (fun _=>?_)
  have:=hK _ (A0 g F)
  rw [show exB c n a b=false from decide_eq_false fun z=>z l] at this
  exact this
end
end Go.Proofs.YtbgkfnjmcjfokaaGreatDoor
namespace Go.Proofs.YtbgkfnjmcjfokaaGreatDoor
set_option maxRecDepth 20000
def UvR.der{c:Nat->Rat}{n:Nat}{w:List Int}{D:Int}(u:UvR c n w D)(x:Rat):pd w x=(D:Rat)*sQ (dC c) x (n-1):=by
 rw [<- Jb,<- A0o,Qd,<- u.len]
 refine B6x fun i a=>?_
 rw [B8v,aF,u.eq (i+1) o]
 unfold dC
 have:((1+i:Nat):Int)=((i+1:Nat):Int):=o
 rw [this];grind
def UvR.val'{c:Nat->Rat}{n:Nat}{w:List Int}{D:Int}(u:UvR c n w D)(x:Rat):pe w x=(D:Rat)*sQ c x n:=by rw [u.val,B6x u.eq]
def B3i(c:Nat->Rat)(n:Nat)(a:Rat)(z:Int):Int:=if sQ c a n=0 then z+1 else z
def Zq{c:Nat->Rat}{n:Nat}{w:List Int}{D z:Int}{a b:Rat}(u:UvR c n w D)(v:VerO c n a b)(co:B9i w a b z):B3i c n a z=1:=by
 obtain ⟨m,Y,gl,gh,L,y,A,p⟩:=v
 have l:=H0 u.pos
 have q:(D:Rat)≠0:=gz0
 have d:(D:Rat)*(D:Rat)⁻¹=1:=bX _ q
 have j:0<(D:Rat)⁻¹:=Rat.inv_pos.2 l
 obtain ⟨K,K0,B⟩:=Lg a b w
 have ty:TyR a b (pe w) (pd w):=⟨K,K0,B⟩
 obtain ⟨i,σ,δ,hσ,hδ,C,k,M⟩:=A53 (m:=m) (Y:=Y*(D:Rat)⁻¹) (gl:=(D:Rat)*gl) (gh:=(D:Rat)*gh) ty L y (fun x s r=>by
  obtain ⟨p1,X⟩:=A x s r
  rw [u.der]
  exact ⟨by have:=aI (aH l) (show 0<=sQ (dC c) x (n-1)-gl from gz0);grind,by have:=aI (aH l) (show 0<=gh-sQ (dC c) x (n-1) from gz0);grind⟩)
  (fun g x g1 g2 s r=>by
   have O:gl<=g*(D:Rat)⁻¹:=by
    have:=aI (aH j) (show 0<=g-(D:Rat)*gl from gz0)
    have e:(D:Rat)⁻¹*(g-(D:Rat)*gl)=g*(D:Rat)⁻¹-(D:Rat)*(D:Rat)⁻¹*gl:=gz0
    rw [e,d] at this;grind
   have F:g*(D:Rat)⁻¹<=gh:=by
    have:=aI (aH j) (show 0<=(D:Rat)*gh-g from gz0)
    have e:(D:Rat)⁻¹*((D:Rat)*gh-g)=(D:Rat)*(D:Rat)⁻¹*gh-g*(D:Rat)⁻¹:=gz0
    rw [e,d] at this;grind
   have:=p _ x O F s r
   rw [u.val']
   have Q:Y*(D:Rat)⁻¹*((D:Rat)*sQ c m n)=Y*sQ c m n*((D:Rat)*(D:Rat)⁻¹):=gz0
   have V:Y*(D:Rat)⁻¹*g=Y*(g*(D:Rat)⁻¹):=gz0
   rw [Q,V,d,Rat.mul_one]
   exact this)
 obtain ⟨S,t,G,H⟩:=co.2 i
 have W:=B4a G i hσ hδ C k M
 have T:sQ c a n≠0:=fun N=>by
  rw [u.val',N,cY,cY] at k
  exact absurd k dc
 unfold B3i
 rw [iN T,H,W]
 omega
def B0a{c:Nat->Rat}{n:Nat}{w:List Int}{D z:Int}{a b:Rat}(u:UvR c n w D)(hab:a<=b)(v:C5r c n a b)(co:B9i w a b z):B3i c n a z=0:=by
 obtain ⟨l,k,d,m⟩:=v
 have e:=H0 u.pos
 have r:sQ c a n≠0:=fun s=>by
  have:=d a aQ hab
  rw [s] at this
  rcases m with h|h
  ·exact absurd this.1 (Rat.not_le.2 h)
  ·exact absurd this.2 (Rat.not_le.2 h)
 unfold B3i
 rw [iN r]
 by_cases g:a<b
 ·obtain ⟨S,t,A,q⟩:=co.2 g
  have aw:Aw a b (pe w):=by
   rcases m with h|h
   ·refine ⟨(D:Rat)*l,bG e h,fun x i j=>?_⟩
    rw [u.val']
    have:=aI (aH e) (show 0<=sQ c x n-l by have:=(d x i j).1;grind)
    have p:=bG e h
    unfold abR
    split<;>grind
   ·refine ⟨(D:Rat) * -k,bG e gz0,fun x i j=>?_⟩
    rw [u.val']
    have:=aI (aH e) (show 0<=k-sQ c x n by have:=(d x i j).2;grind)
    have p:=bG e (show 0 < -k from gz0)
    unfold abR
    split<;>grind
  have y:=A1l A hab aw
  rw [q,y]
  omega
 ·exact co.1 g
end Go.Proofs.YtbgkfnjmcjfokaaGreatDoor
namespace Go.Proofs.YtbgkfnjmcjfokaaGreatDoor
set_option maxRecDepth 20000
def Ba(e:Nat):(0:Rat)<2^e:=by
 induction e with
 | zero=>rw [cH];grind
 | succ e ih=>rw [bL];exact bG ih gz0
def Fk(e f:Nat):(2:Rat)^(e+f)=2^e*2^f:=by
 induction f with
 | zero=>rw [Nat.add_zero,cH,Rat.mul_one]
 | succ f ih=>rw [<- Nat.add_assoc,bL,bL,ih];grind
def A0w(e:Nat):(1:Rat)<=2^e:=by
 induction e with
 | zero=>rw [cH];grind
 | succ e ih=>rw [bL];grind
def Ob{e f:Nat}(h:e<=f):(2:Rat)^e<=2^f:=by
 obtain ⟨d,rfl⟩:=Nat.exists_eq_add_of_le h
 rw [Fk]
 have:=aI (aH (Ba e)) (show 0<=(2:Rat)^d-1 by have:=A0w d;grind)
 grind
def BR(e:Nat)(x:Rat):Prop:=abR x<=2^e
def BR.mono{e f:Nat}{x:Rat}(h:BR e x)(k:e<=f):BR f x:=by
 unfold BR at *
 have:=Ob k
 grind
def BR.add{e:Nat}{x y:Rat}(h:BR e x)(k:BR e y):BR (e+1) (x+y):=by
 unfold BR at *
 have:=Ie x y
 rw [bL];grind
def BR.sub{e:Nat}{x y:Rat}(h:BR e x)(k:BR e y):BR (e+1) (x-y):=by
 unfold BR at *
 have:=B1h x y
 rw [bL];grind
def BR.mul{e f:Nat}{x y:Rat}(h:BR e x)(k:BR f y):BR (e+f) (x*y):=by
 unfold BR at *
 rw [S7,Fk]
 exact T1 (K5 _) h (K5 _) k
def Hg(e:Nat):(((2^e:Nat):Int):Rat)=2^e:=by
 induction e with
 | zero=>rfl
 | succ e ih=>rw [Nat.pow_succ,cF,aF,bL,ih];rfl
def BR.int{e:Nat}{z:Int}(h:z.natAbs<=2^e):BR e (z:Rat):=by
 unfold BR
 rw [<- Hg]
 refine Id.2 ⟨?_,?_⟩
 ·rw [<- Rat.intCast_neg];exact Rat.intCast_le_intCast.2 o
 ·exact Rat.intCast_le_intCast.2 o
def BR.num(e:Nat)(z:Int)(h:decide (z.natAbs<=2^e)=true):BR e (z:Rat):=BR.int (of_decide_eq_true h)
section
variable {S:List Int} {m p:Nat} {x:Rat}
def C2k{t:Int}{α β u v:Rat}{e:Nat}(ht:t≠0)(h:(t:Rat)=α*u+β*v)(ha:BR e α)(hb:BR e β):1<=2^e*(abR u+abR v):=by
 unfold BR at ha hb
 have d:(1:Rat)<=abR (t:Rat):=by
  rcases Int.lt_or_gt_of_ne ht with z|z
  ·have:=Rat.intCast_le_intCast.2 (show t <= -1 from o)
   have a:(((-1:Int)):Rat)= -1:=rfl
   unfold abR;split<;>grind
  ·have:=Rat.intCast_le_intCast.2 (show 1<=t from o)
   have a:(((1:Int)):Rat)=1:=rfl
   unfold abR;split<;>grind
 have b:=Ie (α*u) (β*v)
 rw [<- h,S7,S7] at b
 have g:=T1 (K5 α) ha (K5 u) (show abR u<=abR u from gz0)
 have c:=T1 (K5 β) hb (K5 v) (show abR v<=abR v from gz0)
 grind
def Mz{e f:Nat}{s:Rat}(hs:0<=s)(h:1<=2^e*s)(k:e<=f):1<=2^f*s:=by
 have:=aI (show 0<=(2:Rat)^f-2^e by have:=Ob k;grind) hs
 grind
def c2:((2:Int):Rat)=2:=rfl
def c3:((3:Int):Rat)=3:=rfl
def c4:((4:Int):Rat)=4:=rfl
def c6:((6:Int):Rat)=6:=rfl
def c9:((9:Int):Rat)=9:=rfl
def c0':((0:Int):Rat)=0:=rfl
def C60{c d:Int}(hc:c≠0):1<=2^0*(abR (pe [d,c] x)+abR (pd [d,c] x)):=
 C2k (t:=c) (α:=0) (β:=1) hc (by simp only [pe,pd];grind) (by unfold BR abR;split<;>rw [cH]<;>grind) (by unfold BR abR;split<;>rw [cH]<;>grind)
def C5z{b c d:Int}(hb:b≠0)(mb:BR m (b:Rat))(mc:BR m (c:Rat))(hx:BR p x)(cop:∀ D,Nz D->Dv D [d,c,b]->Dv D (dl [d,c,b])->D.length<=1):
 1<=2^(m+p+3)*(abR (pe [d,c,b] x)+abR (pd [d,c,b] x)):=by
 by_cases a:c*c-4*b*d=0
 ·exfalso
  have nz:Nz [c,2*b]:=fun _ z=>by
   have:(2*b)=0:=z
   omega
  have e:(c:Rat)*c-4*b*d=0:=by
   have:=congrArg (fun z:Int=>(z:Rat)) a
   simp only [bK,aF,c4,c0'] at this
   exact this
  have:=cop [c,2*b] nz ⟨4*b,[c,2*b],o,fun x=>by simp only [pe,aF,c4,c2];grind⟩ ⟨1,[1],o,fun x=>by rw [Jb];simp only [pe,pd,aF,c2];have:((1:Int):Rat)=1:=rfl;grind⟩
  simp at this
 ·refine C2k (t:=c*c-4*b*d) (α:=((-4:Int):Rat)*b) (β:=c+(((2:Int):Rat)*b)*x) a ?_ (((BR.num 2 (-4) rfl).mul mb).mono o) (((mc.mono (show m<=m+p+2 from o)).add ((((BR.num 1 2 rfl).mul mb).mul hx).mono (show 1+m+p<=m+p+2 from o))).mono o)
  simp only [bK,aF,c4,c2,pe,pd]
  have:((-4:Int):Rat)= -4:=rfl
  grind
def C5y{a b c d:Int}(ha:a≠0)(ma:BR m (a:Rat))(mb:BR m (b:Rat))(mc:BR m (c:Rat))(md:BR m (d:Rat))(hx:BR p x)(cop:∀ D,Nz D->Dv D [d,c,b,a]->Dv D (dl [d,c,b,a])->D.length<=1):
 1<=2^(4*m+2*p+20)*(abR (pe [d,c,b,a] x)+abR (pd [d,c,b,a] x)):=by
 have B:0<=abR (pe [d,c,b,a] x)+abR (pd [d,c,b,a] x):=by
  have:=K5 (pe [d,c,b,a] x);have:=K5 (pd [d,c,b,a] x);grind
 obtain ⟨e1,he1⟩:∃ e1:Int,e1=6*a*c-2*b*b:=⟨_,rfl⟩
 obtain ⟨e0,he0⟩:∃ e0:Int,e0=9*a*d-b*c:=⟨_,rfl⟩
 have l:(e1:Rat)=6*a*c-2*b*b:=by rw [he1];simp only [bK,aF,c6,c2]
 have n:(e0:Rat)=9*a*d-b*c:=by rw [he0];simp only [bK,aF,c9]
 have q:BR (2*m+4) (e1:Rat):=by
  rw [l,<- c6,<- c2]
  exact (((((BR.num 3 6 rfl).mul ma).mul mc).mono (show 3+m+m<=2*m+3 from o)).sub ((((BR.num 1 2 rfl).mul mb).mul mb).mono o)).mono o
 have H:BR (2*m+5) (e0:Rat):=by
  rw [n,<- c9]
  exact (((((BR.num 4 9 rfl).mul ma).mul md).mono (show 4+m+m<=2*m+4 from o)).sub ((mb.mul mc).mono o)).mono o
 have A:BR (m+p+3) (((3:Int):Rat)*a*x+b):=(((((BR.num 2 3 rfl).mul ma).mul hx).mono (show 2+m+p<=m+p+2 from o)).add (mb.mono o)).mono o
 have u:BR (m+4) (((9:Int):Rat)*a):=((BR.num 4 9 rfl).mul ma).mono o
 by_cases g:e1=0
 ·by_cases i:e0=0
  ·exfalso
   rw [g,c0'] at l
   rw [i,c0'] at n
   have nz:Nz [c,2*b,3*a]:=fun _ z=>by
    have:(3*a)=0:=z
    omega
   have:=cop [c,2*b,3*a] nz ⟨9*a,[b,3*a],o,fun x=>by simp only [pe,aF,c9,c2,c3];grind⟩ ⟨1,[1],o,fun x=>by rw [Jb];simp only [pe,pd,aF,c2,c3];have:((1:Int):Rat)=1:=rfl;grind⟩
   simp at this
  ·rw [g,c0'] at l
   refine Mz B (C2k (t:=e0) (α:=((9:Int):Rat)*a) (β:= -(((3:Int):Rat)*a*x+b)) (e:=m+p+4) i ?_ (u.mono o) ?_) o
   ·rw [n]
    simp only [pe,pd,c9,c3]
    grind
   ·have:=A
    unfold BR at *
    rw [Wi]
    have:=Ob (show m+p+3<=m+p+4 from o)
    grind
 ·obtain ⟨k,hk⟩:∃ k:Int,k=2*b*e1-3*a*e0:=⟨_,rfl⟩
  have E:(k:Rat)=2*b*e1-3*a*e0:=by rw [hk];simp only [bK,aF,c2,c3]
  have mk:BR (3*m+8) (k:Rat):=by
   rw [E,<- c2,<- c3]
   exact (((((BR.num 1 2 rfl).mul mb).mul q).mono (show 1+m+(2*m+4)<=3*m+7 from o)).sub ((((BR.num 2 3 rfl).mul ma).mul H).mono o)).mono o
  obtain ⟨t,ht⟩:∃ t:Int,t=3*a*e0*e0-2*b*e0*e1+c*e1*e1:=⟨_,rfl⟩
  have G:(t:Rat)=3*a*e0*e0-2*b*e0*e1+c*e1*e1:=by rw [ht];simp only [bK,bM,aF,c2,c3]
  have w:∀ y:Rat,9*(a:Rat)*pe [d,c,b,a] y=(3*a*y+b)*pd [d,c,b,a] y+(e1*y+e0):=fun y=>by
   rw [l,n];simp only [pe,pd];grind
  have j:∀ y:Rat,(e1:Rat)*e1*pd [d,c,b,a] y=(3*a*e1*y+k)*(e1*y+e0)+t:=fun y=>by
   rw [E,G];simp only [pe,pd];grind
  by_cases i:t=0
  ·exfalso
   rw [i,c0'] at j
   have nz:Nz [e0,e1]:=fun _ z=>g z
   have F:Dv [e0,e1] (dl [d,c,b,a]):=⟨e1*e1,[k,3*a*e1],by intro z;rcases Int.mul_eq_zero.1 z with z|z<;>exact g z,fun y=>by
    have:=j y
    rw [Jb,aF,this];simp only [pe,aF,c3];grind⟩
   have L:Dv [e0,e1] [d,c,b,a]:=⟨9*a*(e1*e1),[b*k+e1*e1,3*a*k+3*a*b*e1,9*a*a*e1],by
    intro z
    rcases Int.mul_eq_zero.1 z with z|z
    ·omega
    ·rcases Int.mul_eq_zero.1 z with z|z<;>exact g z,fun y=>by
    have s:=w y
    have r:=j y
    have:((9*a*(e1*e1):Int):Rat)*pe [d,c,b,a] y=(3*a*y+b)*((e1:Rat)*e1*pd [d,c,b,a] y)+(e1:Rat)*e1*(e1*y+e0):=by
     simp only [aF,c9]
     generalize pe [d,c,b,a] y=P at *
     generalize pd [d,c,b,a] y=Q at *
     have:(9:Rat)*a*(e1*e1)*P=e1*e1*(9*a*P):=gz0
     rw [this,s];grind
    rw [this,r]
    simp only [pe,aF,bM,c3,c9]
    grind⟩
   have:=cop [e0,e1] nz L F
   simp at this
  ·have C:BR (3*m+p+9) (((3:Int):Rat)*a*e1*x+k):=(((((((BR.num 2 3 rfl).mul ma).mul q).mul hx).mono (show 2+m+(2*m+4)+p<=3*m+p+8 from o)).add (mk.mono o))).mono o
   refine Mz B (C2k (t:=t) (α:= -((((3:Int):Rat)*a*e1*x+k)*(((9:Int):Rat)*a))) (β:=e1*e1+(((3:Int):Rat)*a*e1*x+k)*(((3:Int):Rat)*a*x+b)) (e:=4*m+2*p+14) i ?_ ?_ ?_) o
   ·have s:=w x
    have r:=j x
    simp only [c3,c9]
    generalize pe [d,c,b,a] x=P at *
    generalize pd [d,c,b,a] x=Q at *
    have e:(e1*x+e0:Rat)=9*a*P-(3*a*x+b)*Q:=by rw [s];grind
    rw [e] at r
    grind
   ·have:=(C.mul u).mono (show 3*m+p+9+(m+4)<=4*m+2*p+14 from o)
    unfold BR at *
    rw [Wi];exact this
   ·exact (((q.mul q).mono (show 2*m+4+(2*m+4)<=4*m+2*p+13 from o)).add ((C.mul A).mono o)).mono o
end
end Go.Proofs.YtbgkfnjmcjfokaaGreatDoor
namespace Go.Proofs.YtbgkfnjmcjfokaaGreatDoor
set_option maxRecDepth 20000
section
variable {S:List Int} {m p:Nat} {x y:Rat}
def A47(m:Nat)(w:List Int):Prop:=∀ z∈w,z.natAbs<=2^m
def C4o{w:List Int}(h:A47 m w)(hx:BR p x):BR (m+w.length*(p+1)) (pe w x):=by
 induction w with
 | nil=>
  unfold BR pe abR
  have:=Ba (m+([]:List Int).length*(p+1))
  split<;>grind
 | cons c w ih=>
  have a:BR m (c:Rat):=BR.int (h c List.mem_cons_self)
  have b:=hx.mul (ih fun z d=>h z (bJ _ d))
  have e:(c::w).length*(p+1)=w.length*(p+1)+(p+1):=by rw [aW,cI]
  exact ((a.mono (show m<=m+w.length*(p+1)+p from o)).add (b.mono o)).mono o
def B5k{w:List Int}(h:A47 m w)(hx:BR p x)(hy:BR p y):abR (pe w x-pe w y)<=2^(m+w.length*(p+1))*abR (x-y):=by
 induction w with
 | nil=>
  have e:pe [] x-pe [] y=0:=by show (0:Rat)-0=0;grind
  rw [e]
  have:=aI (aH (Ba (m+([]:List Int).length*(p+1)))) (K5 (x-y))
  unfold abR at *;grind
 | cons c w ih=>
  have a:A47 m w:=fun z k=>h z (bJ _ k)
  have i:=ih a
  have b:=C4o a hy
  unfold BR at hx b
  have e:pe (c::w) x-pe (c::w) y=x*(pe w x-pe w y)+(x-y)*pe w y:=by
   show (c:Rat)+x*pe w x-((c:Rat)+y*pe w y)=_
   grind
  rw [e]
  have g:=Ie (x*(pe w x-pe w y)) ((x-y)*pe w y)
  rw [S7,S7] at g
  have l:=T1 (K5 x) hx (K5 _) i
  have n:=T1 (K5 (x-y)) (show abR (x-y)<=abR (x-y) from gz0) (K5 _) b
  have j:(c::w).length*(p+1)=w.length*(p+1)+(p+1):=by rw [aW,cI]
  rw [j,show m+(w.length*(p+1)+(p+1))=(m+w.length*(p+1))+(p+1) from o,Fk,bL]
  generalize (2:Rat)^(m+w.length*(p+1))=Q at *
  have d:0<=Q*abR (x-y):=by have:=K5 (pe w x-pe w y);grind
  have:=aI d (show 0<=(2:Rat)^p-1 by have:=A0w p;grind)
  grind
def B48:∀ (w:List Int) (k:Nat),k+w.length<=5->A47 m w->A47 (m+3) (Td k w):=by
 intro w
 induction w with
 | nil=>intro k _ _ z a;cases a
 | cons c w ih=>
  intro k d h z a
  rw [aW] at d
  rcases List.mem_cons.1 a with rfl|a
  ·have b:=h c List.mem_cons_self
   rw [cV,Int.natAbs_natCast,Nat.pow_add]
   have:=cJ b (show k<=2^3 from o)
   exact this
  ·exact ih (k+1) o (fun z a=>h z (bJ _ a)) z a
def C6c(h:A47 m S)(h4:S.length<=4):A47 (m+3) (dl S):=by
 cases S with
 | nil=>intro z a;cases a
 | cons c w=>exact B48 w 1 (by simp at h4;omega) fun z a=>h z (bJ _ a)
def C54(h4:S.length<=4):(dl S).length<=3:=by
 cases S with
 | nil=>simp [dl]
 | cons c w=>show (Td 1 w).length<=3;rw [Yw];simp at h4;omega
def C1l(h:A47 m S)(h4:S.length<=4)(hx:BR p x)(hy:BR p y):abR (pd S x-pd S y)<=2^(m+4*(p+1))*abR (x-y)*8:=by
 rw [<- Jb,<- Jb]
 have d:=B5k (C6c h h4) hx hy
 have a:=C54 h4
 have b:m+3+(dl S).length*(p+1)<=m+4*(p+1)+3:=by
  have:=aV (p+1) a
  omega
 have h4:=Ob b
 rw [Fk (m+4*(p+1)) 3] at h4
 have:=aI (show 0<=(2:Rat)^(m+4*(p+1))*2^3-2^(m+3+(dl S).length*(p+1)) from gz0) (K5 (x-y))
 have c:(2:Rat)^3=8:=by decide +kernel
 rw [c] at *
 grind
def C5x(h:A47 m S)(h2:2<=S.length)(h4:S.length<=4)(hz:Nz S)(cop:∀ D,Nz D->Dv D S->Dv D (dl S)->D.length<=1)(hx:BR p x):1<=2^(4*m+2*p+20)*(abR (pe S x)+abR (pd S x)):=by
 have e:0<=abR (pe S x)+abR (pd S x):=by
  have:=K5 (pe S x);have:=K5 (pd S x);grind
 match S,h2,h4 with
 | [d,c],_,_=>
  have:c≠0:=hz (by simp)
  exact Mz e (C60 this) o
 | [d,c,b],_,_=>
  have:b≠0:=hz (by simp)
  exact Mz e (C5z this (BR.int (h b (by simp))) (BR.int (h c (by simp))) hx cop) o
 | [d,c,b,a],_,_=>
  have:a≠0:=hz (by simp)
  exact C5y this (BR.int (h a (by simp))) (BR.int (h b (by simp))) (BR.int (h c (by simp))) (BR.int (h d (by simp))) hx cop
def Sq.self{w:List Int}{t:List (List Int)}(q:Sq w S t):Sq S S t:=
 ⟨q.ch,⟨[1],1,1,dl S,dc,dc,fun x=>by rw [Y3];have:((1:Int):Rat)=1:=rfl;grind,fun x=>by rw [Y3,Jb];have:((1:Int):Rat)=1:=rfl;grind⟩,q.der,q.con⟩
def Za(m p:Nat):Nat:=(4*m+2*p+20)+(m+4*(p+1))+6
def A5x{w:List Int}{t:List (List Int)}(q:Sq w S t)(h:A47 m S)(h2:2<=S.length)(h4:S.length<=4)(hz:Nz S)(cop:∀ D,Nz D->Dv D S->Dv D (dl S)->D.length<=1)
 (hx:BR p x) (hy:BR p y) (hxy:x<y) (hs:2^Za m p*(y-x)<=1):
 chg 0 (Vs (S::t) x)<=chg 0 (Vs (S::t) y)+1/\(pe S x=0->chg 0 (Vs (S::t) x)<=chg 0 (Vs (S::t) y)):=by
 have B:=C5x h h2 h4 hz cop hx
 have n:∀ z,x<=z->z<=y->BR p z:=fun z c a=>by
  unfold BR at *
  obtain ⟨l,N⟩:=Id.1 hx
  obtain ⟨O,Q⟩:=Id.1 hy
  exact Id.2 ⟨gz0,gz0⟩
 unfold Za at hs
 rw [Fk,Fk] at hs
 have C:(2:Rat)^6=64:=by decide +kernel
 rw [C] at hs
 have e:=Ba (4*m+2*p+20)
 have s:=Ba (m+4*(p+1))
 have b:∀ z,x<=z->z<=y->abR (pe S x-pe S z)<=2^(m+4*(p+1))*(y-x):=fun z c a=>by
  have H:=B5k h hx (n z c a)
  have M:=Ob (show m+S.length*(p+1)<=m+4*(p+1) by have:=aV (p+1) h4;omega)
  have i:abR (x-z)<=y-x:=by unfold abR;split<;>grind
  have F:=T1 (aH (Ba _)) M (K5 (x-z)) i
  grind
 have d:∀ z,x<=z->z<=y->abR (pd S x-pd S z)<=2^(m+4*(p+1))*(y-x)*8:=fun z c a=>by
  have H:=C1l h h4 hx (n z c a)
  have i:abR (x-z)<=y-x:=by unfold abR;split<;>grind
  have F:=T1 (aH s) (show (2:Rat)^(m+4*(p+1))<=2^(m+4*(p+1)) from gz0) (K5 (x-z)) i
  grind
 generalize (2:Rat)^(4*m+2*p+20)=E at *
 generalize (2:Rat)^(m+4*(p+1))=L at *
 obtain ⟨ω,hω⟩:∃ ω,ω=L*(y-x):=⟨_,rfl⟩
 have ω0:0<ω:=by rw [hω];exact bG s gz0
 have hEω:64*(E*ω)<=1:=by rw [hω];grind
 rw [<- hω] at b d
 by_cases u:abR (pd S x)<=abR (pe S x)
 ·have big:16*ω<abR (pe S x):=by
   by_cases j:16*ω<abR (pe S x)
   ·exact j
   ·have:=aI (aH e) (show 0<=16*ω-abR (pe S x) from gz0)
    have:=aI (aH e) (show 0<=abR (pe S x)-abR (pd S x) from gz0)
    grind
  have aw:Aw x y (pe S):=⟨ω,ω0,fun z c a=>by
   have:=b z c a
   have l:=Ie (pe S x-pe S z) (pe S z)
   rw [show pe S x-pe S z+pe S z=pe S x from gz0] at l
   grind⟩
  have:=A1l q.self (aH hxy) aw
  rw [this]
  exact ⟨o,fun _=>aU _⟩
 ·have big:16*ω<abR (pd S x):=by
   by_cases j:16*ω<abR (pd S x)
   ·exact j
   ·have:=aI (aH e) (show 0<=16*ω-abR (pd S x) from gz0)
    have:=aI (aH e) (show 0<=abR (pd S x)-abR (pe S x) from gz0)
    grind
  obtain ⟨σ,hσ,h0⟩:∃ σ:Int,(σ=1\/σ= -1)/\abR (pd S x)=(σ:Rat)*pd S x:=by
   have k:((1:Int):Rat)=1:=rfl
   have g:((-1:Int):Rat)= -1:=rfl
   by_cases r:pd S x<0
   ·exact ⟨-1,.inr rfl,by rw [g];unfold abR;rw [iP r];grind⟩
   ·exact ⟨1,.inl rfl,by rw [k];unfold abR;rw [iN r];grind⟩
  have A:∀ z,x<=z->z<=y->ω<=(σ:Rat)*pd S z:=fun z c a=>by
   have:=d z c a
   obtain ⟨l,N⟩:=Id.1 this
   have k:((1:Int):Rat)=1:=rfl
   have g:((-1:Int):Rat)= -1:=rfl
   rcases hσ with rfl|rfl
   ·rw [k] at *;grind
   ·rw [g] at *;grind
  have u:=My q.self hxy hσ ω0 A
  rw [u]
  refine ⟨by split<;>omega,fun z=>?_⟩
  have:sgR (pe S x)=0:=N7.2 z
  rw [this,iN o]
  omega
end
end Go.Proofs.YtbgkfnjmcjfokaaGreatDoor
namespace Go.Proofs.YtbgkfnjmcjfokaaGreatDoor
set_option maxRecDepth 20000
section
variable {w S S1 S2 Q1 Q2:List Int} {t t1 t2:List (List Int)} {a b:Rat}
def SqF.cop(f:SqF w S):∀ D,Nz D->Dv D S->Dv D (dl S)->D.length<=1:=by
 obtain ⟨W,G,c,c0,m,b,i,d,g,N,α,β,k,j⟩:=f.ex
 exact fun D l e a=>A5t d g i b ⟨N,pe α,pe β,k,PF.po α,PF.po β,fun x=>by rw [j,Jb]⟩ l e a
def Dv.trim{d p:List Int}(h:Dv d p)(hp:Nz p)(p0:p≠[])(hd:Nz d)(d0:d≠[]):∃ (N:Int) (e:List Int),N≠0/\Nz e/\e≠[]/\(∀ x,(N:Rat)*pe p x=pe e x*pe d x)/\p.length+1=e.length+d.length:=by
 obtain ⟨N,e,b,g⟩:=h
 have a: ∀ x,(N:Rat)*pe p x=pe (trZ e) x*pe d x:=fun x=>by rw [Hc];exact g x
 have c:trZ e≠[]:=by
  intro z
  obtain ⟨x,j⟩:=hp.val p0
  have:=a x
  rw [z] at this
  have i:pe [] x=0:=rfl
  rw [i,Rat.zero_mul] at this
  rcases Rat.mul_eq_zero.1 this with q|q
  ·exact F6 b q
  ·exact j q
 exact ⟨N,trZ e,b,Kz e,c,a,Sk b hp (Kz e) hd c d0 a⟩
def Dv.both{d p:List Int}(h1:Dv d p)(h2:Dv p d)(hp:Nz p)(p0:p≠[])(hd:Nz d)(d0:d≠[]):∃ N k:Int,N≠0/\k≠0/\∀ x,(N:Rat)*pe p x=(k:Rat)*pe d x:=by
 obtain ⟨N,e,l,j,c,a,m⟩:=h1.trim hp p0 hd d0
 obtain ⟨N2,r,q,g,b,i,n⟩:=h2.trim hd d0 hp p0
 have:=List.length_pos_iff.2 c
 have:=List.length_pos_iff.2 b
 match e,c,j,a,(show e.length=1 from o) with
 | [k],_,zk,a,_=>
  refine ⟨N,k,l,zk (by simp),fun x=>?_⟩
  rw [a]
  have:pe [k] x=(k:Rat):=by show (k:Rat)+x*0=_;grind
  rw [this]
def B5l{u v:List Int}{a b:Rat}(h:∀ x,a*pe u x=b*pe v x)(a0:a≠0)(x:Rat):a*pd u x=b*pd v x:=by
 have d:=He (w:=u) (S:=[1]) (G:=v) (c:=a⁻¹*b) (fun x=>by
  rw [Y3,Rat.one_mul,cN,<- h,<- cN,Rat.inv_mul_cancel _ a0,Rat.one_mul]) x
 rw [d,Y3,A0u,<- cN,<- cN,bX _ a0]
 grind
def SqF.prop(f1:SqF w S1)(f2:SqF w S2):∃ a b:Int,a≠0/\b≠0/\∀ x,(a:Rat)*pe S1 x=(b:Rat)*pe S2 x:=by
 obtain ⟨W1,G1,c1,c,T,V,B,R,Q,N1,α1,β1,X,s⟩:=f1.ex
 obtain ⟨W2,G2,c2,d,G,S,y,D,u,N2,α2,β2,n2,q⟩:=f2.ex
 have key:∀ {W1 W2 G1 G2 S2 α β:List Int} {c1 c2 N:Int},0<c1->0<c2->N≠0->(∀ x,(c1:Rat)*pe W1 x=(c2:Rat)*pe W2 x)->Dv G2 (dl W2)->(∀ x,pe W2 x=pe S2 x*pe G2 x)->(∀ x,(N:Rat)*pe G1 x=pe α x*pe W1 x+pe β x*pe (dl W1) x)->Dv G2 G1:=by
  intro W1 W2 G1 G2 S2 α β c1 c2 N c d O i e W H
  obtain ⟨N',M,F,p⟩:=e
  have E:=B5l i (F6 o)
  refine ⟨c1*N*N',R6 c2 (Ia (R6 N' (Ch α S2)) (Ch β M)),?_,fun x=>?_⟩
  ·intro z
   rcases Int.mul_eq_zero.1 z with z|z
   ·rcases Int.mul_eq_zero.1 z with z|z<;>omega
   ·exact F z
  ·have j:=H x
   have l:=E x
   have C:=i x
   have A:=p x
   rw [Jb] at j A
   rw [W] at C
   rw [G9,Ey,G9,O8,O8,aF,aF]
   generalize pe G1 x=g1 at *
   generalize pe W1 x=w1 at *
   generalize pd W1 x=m at *
   generalize pd W2 x=e at *
   generalize pe G2 x=g2 at *
   have r:(c1:Rat)*N*N'*g1=N'*(pe α x*(c1*w1)+pe β x*(c1*m)):=by
    have:(c1:Rat)*N*N'*g1=c1*N'*(N*g1):=gz0
    rw [this,j];grind
   rw [r,C,l]
   have n:(N':Rat)*(pe α x*(c2*(pe S2 x*g2))+pe β x*(c2*e))=c2*(N'*(pe α x*pe S2 x)*g2+pe β x*(N'*e)):=gz0
   rw [n,A];grind
 have i:∀ x,(c1:Rat)*pe W1 x=(c2:Rat)*pe W2 x:=fun x=>by rw [<- T,<- G]
 have m:=key c d X i S y s
 have e:=key d c n2 (fun x=>(i x).symm) V B q
 obtain ⟨N,k,O,k0,L⟩:=Dv.both m e R Q D u
 refine ⟨c1*k,N*c2,fun z=>by rcases Int.mul_eq_zero.1 z with z|z<;>omega,fun z=>by rcases Int.mul_eq_zero.1 z with z|z<;>omega,fun x=>?_⟩
 rw [aF,aF]
 refine Tu (f:=fun x=>(c1:Rat)*k*pe S1 x) (g:=fun x=>(N:Rat)*c2*pe S2 x) D u ?_ ?_ (fun x=>?_) x
 ·have:=((PF.int c1).mul (PF.int k)).mul (PF.po S1)
  exact this
 ·have:=((PF.int N).mul (PF.int c2)).mul (PF.po S2)
  exact this
 ·have j:=i x
  have l:=L x
  rw [B,y] at j
  have r:pe G2 x*((c1:Rat)*k*pe S1 x)=c1*pe S1 x*(k*pe G2 x):=gz0
  rw [r,<- l]
  have n:(c1:Rat)*pe S1 x*(N*pe G1 x)=N*(c1*(pe S1 x*pe G1 x)):=gz0
  rw [n,j];grind
def Yk(q:Sq w S (Q1::t))(hS:Nz S)(S0:S≠[])(cop:∀ D,Nz D->Dv D S->Dv D (dl S)->D.length<=1):∃ k:Rat,k≠0/\∀ x,pe (Ck S (Q1::t)) x=k:=by
 obtain ⟨m,g⟩:=PCh.dvd _ _ q.ch
 have g:=g Q1 t rfl
 obtain ⟨c,c0,s⟩:=q.der Q1 t rfl
 generalize Ck S (Q1::t)=D at *
 have d:∀ {p:List Int},Dv D p->Dv (trZ D) p:=fun ⟨N,e,b,a⟩=>⟨N,e,b,fun x=>by rw [Hc];exact a x⟩
 have n:Dv (trZ D) (dl S):=by
  obtain ⟨N,e,b,a⟩:=d g
  refine ⟨N,R6 c e,b,fun x=>?_⟩
  rw [Jb,s,G9]
  have:=a x
  have j:(N:Rat)*((c:Rat)*pe Q1 x)=c*(N*pe Q1 x):=gz0
  rw [j,this];grind
 have r:=cop (trZ D) (Kz D) (d m) n
 have ne:trZ D≠[]:=by
  intro z
  obtain ⟨N,e,b,a⟩:=d m
  obtain ⟨x,u⟩:=hS.val S0
  have:=a x
  rw [z] at this
  have j:pe [] x=0:=rfl
  rw [j,cY] at this
  rcases Rat.mul_eq_zero.1 this with q|q
  ·exact F6 b q
  ·exact u q
 have l:=Kz D
 have i:∀ x,pe D x=pe (trZ D) x:=fun x=>(Hc D x).symm
 match h:trZ D,ne,r,l with
 | [k],_,_,l=>
  refine ⟨(k:Rat),F6 (l (by simp)),fun x=>?_⟩
  rw [i,h]
  show (k:Rat)+x*0=_
  grind
def Aw.const{k:Rat}{f:Rat->Rat}(k0:k≠0)(h:∀ x,f x=k):Aw a b f:=⟨abR k,A22 k0,fun x _ _=>by rw [h];grind⟩
def Sq.cell(q:Sq w S (Q1::t))(aw:Aw a b (pe (Ck S (Q1::t)))):∃ η,0<η/\∀ x y,a<=x->x<y->y<=b->y-x<=η->
 (sgR (pe S x)=sgR (pe S y)/\sgR (pe S x)≠0/\chg 0 (Vs (S::Q1::t) x)=chg 0 (Vs (S::Q1::t) y))\/
 ∃ (e:Int) (W:Nat),(e=1\/e= -1)/\chg 0 (Vs (S::Q1::t) x)=(if sgR (pe S x)= -e then 1 else 0)+W/\chg 0 (Vs (S::Q1::t) y)=(if sgR (pe S y)= -e then 1 else 0)+W/\sgR (pe S y-pe S x)=e:=by
 obtain ⟨c,c0,s⟩:=q.der Q1 t rfl
 have st:=PCh.st _ _ q.ch aw
 obtain ⟨K,K0,m⟩:=Lg a b S
 obtain ⟨η,r,i⟩:=Go.Proofs.YtbgkfnjmcjfokaaGreatDoor.cell st ⟨K,(c:Rat),K0,H0 c0,fun x y j g u d=>by rw [<- s];exact m x y j g u d⟩ (J7 _ _ _)
 refine ⟨η,r,fun x y n k p l=>?_⟩
 have e:=B1j (S::Q1::t)
 simp only [List.map_cons] at e
 have c:=i x y n k p l
 rw [e,e] at c
 exact c
def A5n(q1:Sq w S1 (Q1::t1))(q2:Sq w S2 (Q2::t2))(aw1:Aw a b (pe (Ck S1 (Q1::t1))))(aw2:Aw a b (pe (Ck S2 (Q2::t2)))){l:Rat}(l0:l≠0)(hl:∀ x,pe S2 x=l*pe S1 x)(hab:a<=b):
 (chg 0 (Vs (S1::Q1::t1) a):Int)-chg 0 (Vs (S1::Q1::t1) b)=(chg 0 (Vs (S2::Q2::t2) a):Int)-chg 0 (Vs (S2::Q2::t2) b):=by
 obtain ⟨η1,u,p⟩:=q1.cell aw1
 obtain ⟨η2,A,r⟩:=q2.cell aw2
 obtain ⟨η,n0,m1,m2⟩:∃ η:Rat,0<η/\η<=η1/\η<=η2:=by
  by_cases h:η1<=η2
  ·exact ⟨η1,u,gz0,h⟩
  ·exact ⟨η2,A,gz0,gz0⟩
 have sl:sgR l=1\/sgR l= -1:=by
  rcases D9 l with h|h|h
  ·exact .inl h
  ·exact .inr h
  ·exact absurd (N7.1 h) l0
 have m:∀ x,sgR (pe S2 x)=sgR l*sgR (pe S1 x):=fun x=>by rw [hl,Ds]
 have n:∀ x y,sgR (pe S2 y-pe S2 x)=sgR l*sgR (pe S1 y-pe S1 x):=fun x y=>by rw [hl,hl,show l*pe S1 y-l*pe S1 x=l*(pe S1 y-pe S1 x) from gz0,Ds]
 refine C1v (R:=fun a b=>(chg 0 (Vs (S1::Q1::t1) a):Int)-chg 0 (Vs (S1::Q1::t1) b)=(chg 0 (Vs (S2::Q2::t2) a):Int)-chg 0 (Vs (S2::Q2::t2) b)) n0 (fun x _ _=>o) (fun x y j i k C=>?_) (fun x y z _ _ _ _ D B=>o) hab
 have g:=m x
 have d:=m y
 have c:=n x y
 have q:=D9 (pe S1 x)
 have s:=D9 (pe S1 y)
 rcases p x y j i k gz0 with ⟨u1,u2,u3⟩|⟨e,W,he,u1,u2,u3⟩<;>rcases r x y j i k gz0 with ⟨v1,v2,v3⟩|⟨e',W',he',v1,v2,v3⟩
 ·omega
 ·rw [v1,v2,u3,g,d,u1];omega
 ·have:sgR (pe S1 x)=sgR (pe S1 y):=by
   rw [g,d] at v1
   rcases sl with h|h<;>rw [h] at v1<;>omega
  rw [u1,u2,v3,this];omega
 ·rw [u1,u2,v1,v2,g,d]
  rw [u3] at c
  rcases sl with h|h<;>rw [h] at c ⊢ <;> rcases he with rfl|rfl<;>rcases q with z|z|z<;>rcases s with y|y|y<;>rw [z,y]<;>(rw [<- v3] at *;simp at c;rw [c];simp<;>omega)
end
end Go.Proofs.YtbgkfnjmcjfokaaGreatDoor
namespace Go.Proofs.YtbgkfnjmcjfokaaGreatDoor
set_option maxRecDepth 20000
section
variable {c:Nat->Rat} {n:Nat} {w:List Int} {D z:Int} {a b:Rat}
def UvR.ty(u:UvR c n w D)(a b:Rat):TyR a b (fun x=>sQ c x n) (fun x=>sQ (dC c) x (n-1)):=by
 obtain ⟨K,K0,p⟩:=Lg a b w
 have z:=H0 u.pos
 have i:(D:Rat)≠0:=gz0
 have g:(D:Rat)⁻¹*(D:Rat)=1:=Rat.inv_mul_cancel _ i
 have d:0<(D:Rat)⁻¹:=Rat.inv_pos.2 z
 refine ⟨(D:Rat)⁻¹*K,aI (aH d) K0,fun x y q l r m=>?_⟩
 have k:=p x y q l r m
 rw [u.val',u.val',u.der] at k
 have e:(D:Rat)*sQ c y n-(D:Rat)*sQ c x n-(y-x)*((D:Rat)*sQ (dC c) x (n-1))=(D:Rat)*(sQ c y n-sQ c x n-(y-x)*sQ (dC c) x (n-1)):=gz0
 rw [e,S7] at k
 have j:abR (D:Rat)=(D:Rat):=by unfold abR;grind
 rw [j] at k
 have:=aI (aH d) (show 0<=K*((y-x)*(y-x))-(D:Rat)*abR (sQ c y n-sQ c x n-(y-x)*sQ (dC c) x (n-1)) from gz0)
 have s:(D:Rat)⁻¹*(K*((y-x)*(y-x))-(D:Rat)*abR (sQ c y n-sQ c x n-(y-x)*sQ (dC c) x (n-1)))=(D:Rat)⁻¹*K*((y-x)*(y-x))-((D:Rat)⁻¹*(D:Rat))*abR (sQ c y n-sQ c x n-(y-x)*sQ (dC c) x (n-1)):=gz0
 rw [s,g] at this
 show abR (sQ c y n-sQ c x n-(y-x)*sQ (dC c) x (n-1))<=_
 grind
structure VD (c:Nat->Rat) (n:Nat) (a b:Rat) (σ:Int) (δ:Rat):Prop where
 lt:a<b
 sg:σ=1\/σ= -1
 pos:0<δ
 der:∀ z,a<=z->z<=b->δ<=(σ:Rat)*sQ (dC c) z (n-1)
 lo:(σ:Rat)*sQ c a n<0
 hi:0<(σ:Rat)*sQ c b n
def VerO.data(u:UvR c n w D)(v:VerO c n a b):∃ σ δ,VD c n a b σ δ:=by
 obtain ⟨m,Y,gl,gh,l,i,q,d⟩:=v
 obtain ⟨e,σ,δ,hσ,hδ,k,j,p⟩:=A53 (m:=m) (Y:=Y) (gl:=gl) (gh:=gh) (u.ty a b) l i q d
 exact ⟨σ,δ,e,hσ,hδ,k,j,p⟩
structure BxO (c:Nat->Rat) (n:Nat) (σ:Int) (a b x y:Rat):Prop where
 ax:a<=x
 xy:x<=y
 yb:y<=b
 lo:(σ:Rat)*sQ c x n<=0
 hi:0<=(σ:Rat)*sQ c y n
variable {σ:Int} {δ x y:Rat}
def VD.box(v:VD c n a b σ δ):BxO c n σ a b a b:=⟨aQ,aH v.lt,aQ,aH v.lo,aH v.hi⟩
def C25{v:Rat}(h:0<v):0<=dy v:=by
 have:=dP v
 have d:=Rat.lt_floor_add_one v
 have g:0<=v.floor:=by
  by_cases c:0<=v.floor
  ·exact c
  ·exfalso
   have:=Rat.intCast_le_intCast.2 (show v.floor+1<=0 from o)
   rw [bM] at this
   have a:((0:Int):Rat)=0:=rfl
   have b:((1:Int):Rat)=1:=rfl
   rw [a,b] at this
   grind
 rcases Yt v with e|e<;>omega
def C26{v:Rat}(h:v<0):dy v<=0:=by
 have c:=dP v
 have d:v.floor<0:=by
  by_cases a:v.floor<0
  ·exact a
  ·exfalso
   have:=Rat.intCast_le_intCast.2 (show 0<=v.floor from o)
   have b:((0:Int):Rat)=0:=rfl
   rw [b] at this
   grind
 rcases Yt v with e|e<;>omega
def C3g{d:Rat}{k:Nat}(hσ:σ=1\/σ= -1)(h:0<(σ:Rat)*d):0<=(σ:Rat)*yR d k:=by
 have e:=Sd k
 have a:(0:Rat)<(2^k)⁻¹:=Rat.inv_pos.2 e
 have g:((0:Int):Rat)=0:=rfl
 have j:((1:Int):Rat)=1:=rfl
 have n:((-1:Int):Rat)= -1:=rfl
 unfold yR
 rw [cM]
 rcases hσ with rfl|rfl
 ·rw [j] at h ⊢
  have c:0<d:=gz0
  have i:=Rat.inv_pos.2 c
  have:0<=dy (1/d*2^k):=C25 (bG (by rw [cM];grind) e)
  have b:=Rat.intCast_le_intCast.2 this
  rw [g] at b
  have:=aI b (aH a)
  grind
 ·rw [n] at h ⊢
  have c:0 < -d:=gz0
  have i:=Rat.inv_pos.2 c
  have l:(-d)⁻¹= -d⁻¹:=by
   have m:d≠0:=gz0
   have:=bX d m
   have p:=bX (-d) gz0
   have: -d*((-d)⁻¹+d⁻¹)=0:=gz0
   rcases Rat.mul_eq_zero.1 this with z|z<;>grind
  rw [l] at i
  have:dy (1/d*2^k)<=0:=C26 (by
   have:=bG i e
   rw [cM];grind)
  have b:=Rat.intCast_le_intCast.2 this
  rw [g] at b
  have:=aI (show 0 <= -((dy (1/d*2^k):Int):Rat) from gz0) (aH a)
  grind
def C1u(h:x<=y):x<=mid x y/\mid x y<=y:=⟨by unfold mid;grind,by unfold mid;grind⟩
def BxO.step(u:UvR c n w D)(v:VD c n a b σ δ)(bx:BxO c n σ a b x y){k:Nat}(h:mx x (imR c n x y k).1<=mn y (imR c n x y k).2):BxO c n σ a b (mx x (imR c n x y k).1) (mn y (imR c n x y k).2):=by
 have d:=C1u bx.xy
 have g:=A9q x y (mid x y) (yR (sQ (dC c) (mid x y) (n-1)) k) (sQ c (mid x y) n) (evQ (dC c) x y (n-1)).1 (evQ (dC c) x y (n-1)).2 k
 have l:=A9r x y (mid x y) (yR (sQ (dC c) (mid x y) (n-1)) k) (sQ c (mid x y) n) (evQ (dC c) x y (n-1)).1 (evQ (dC c) x y (n-1)).2 k
 have i:=A54 (a:=x) (b:=y) (m:=mid x y) (Y:=yR (sQ (dC c) (mid x y) (n-1)) k) (v:=sQ c (mid x y) n) bx.xy (B0e (dC c) x y (n-1)) g l
 have j:0<(σ:Rat)*sQ (dC c) (mid x y) (n-1):=by
  have:=v.der (mid x y) (by have:=bx.ax;grind) (by have:=bx.yb;grind)
  have:=v.pos
  grind
 have sσ:(σ:Rat)=1\/(σ:Rat)= -1:=by rcases v.sg with rfl|rfl;exact .inl rfl;exact .inr rfl
 obtain ⟨A,q⟩:=A9p (a:=x) (b:=y) (m:=mid x y) (Y:=yR (sQ (dC c) (mid x y) (n-1)) k) (gl:=(evQ (dC c) x y (n-1)).1) (gh:=(evQ (dC c) x y (n-1)).2) (c:=(imR c n x y k).1) (e:=(imR c n x y k).2) (σ:=(σ:Rat)) (u.ty x y) d.1 d.2 (fun z s p=>B0f s p) sσ (C3g v.sg j) i bx.lo bx.hi (a1:=mx x (imR c n x y k).1) (b1:=mn y (imR c n x y k).2) (by unfold mx;split<;>split<;>grind) (by unfold mn;split<;>split<;>grind) h
 have C:x<=mx x (imR c n x y k).1:=by unfold mx;split<;>grind
 have B:mn y (imR c n x y k).2<=y:=by unfold mn;split<;>grind
 exact ⟨by have:=bx.ax;grind,h,by have:=bx.yb;grind,A,q⟩
def VD.mono(u:UvR c n w D)(v:VD c n a b σ δ):∀ s t,a<=s->s<t->t<=b->(σ:Rat)*sQ c s n<(σ:Rat)*sQ c t n:=by
 intro s t k j l
 have ty:=u.ty a b
 have i:((1:Int):Rat)=1:=rfl
 have m:((-1:Int):Rat)= -1:=rfl
 have q:=bG v.pos (show 0<t-s from gz0)
 rcases v.sg with h|h
 ·have p:=A2w ty (g:=δ) (fun z e d=>by have:=v.der z e d;rw [h,i] at this;grind) k (aH j) l
  rw [h,i];grind
 ·have p:=A08 ty (g:= -δ) (fun z e d=>by have:=v.der z e d;rw [h,m] at this;grind) k (aH j) l
  rw [h,m];grind
def BxO.num(u:UvR c n w D)(v:VD c n a b σ δ)(bx:BxO c n σ a b x y)(co:B9i w x y z):B3i c n x z=1:=by
 have g:=H0 u.pos
 unfold B3i
 by_cases j:sQ c x n=0
 ·rw [iP j]
  by_cases d:x<y
  ·obtain ⟨S,t,k,r⟩:=co.2 d
   have i:=My k d v.sg (bG g v.pos) (fun z B m=>by
    have:=v.der z (by have:=bx.ax;grind) (by have:=bx.yb;grind)
    rw [u.der]
    have:=aI (aH g) (show 0<=(σ:Rat)*sQ (dC c) z (n-1)-δ from gz0)
    grind)
   have:sgR (pe w x)=0:=by rw [u.val',j,cY];rfl
   rw [this,iN o] at i
   omega
  ·have:=co.1 d
   omega
 ·rw [iN j]
  have A:(σ:Rat)*sQ c x n<0:=by
   have:=bx.lo
   rcases v.sg with h|h<;>rw [h] at this ⊢
   ·have p:((1:Int):Rat)=1:=rfl
    rw [p] at *;grind
   ·have E:((-1:Int):Rat)= -1:=rfl
    rw [E] at *;grind
  have d:x<y:=by
   by_cases i:x<y
   ·exact i
   ·have:x=y:=by have:=bx.xy;grind
    have:=bx.hi
    grind
  obtain ⟨S,t,k,r⟩:=co.2 d
  have i:=My k d v.sg (bG g v.pos) (fun z B m=>by
   have:=v.der z (by have:=bx.ax;grind) (by have:=bx.yb;grind)
   rw [u.der]
   have:=aI (aH g) (show 0<=(σ:Rat)*sQ (dC c) z (n-1)-δ from gz0)
   grind)
  have sσ:sgR (σ:Rat)=σ:=by rcases v.sg with rfl|rfl<;>decide
  have C:σ*sgR (pe w x)<0:=by
   have:=Ds (σ:Rat) (pe w x)
   rw [sσ] at this
   rw [<- this]
   have:sgR ((σ:Rat)*pe w x)= -1:=S3.2 (by rw [u.val'];have:=bG g (show 0 < -((σ:Rat)*sQ c x n) from gz0);grind)
   omega
  have s:0<=σ*sgR (pe w y):=by
   have e:=Ds (σ:Rat) (pe w y)
   rw [sσ] at e
   rw [<- e]
   have:0<=(σ:Rat)*pe w y:=by rw [u.val'];have:=aI (aH g) bx.hi;grind
   rcases D9 ((σ:Rat)*pe w y) with q|q|q
   ·omega
   ·have:=S3.1 q;grind
   ·omega
  rw [iP ⟨C,s⟩] at i
  omega
end
end Go.Proofs.YtbgkfnjmcjfokaaGreatDoor
namespace Go.Proofs.YtbgkfnjmcjfokaaGreatDoor
set_option maxRecDepth 20000
section
variable {c:Nat->Rat} {n:Nat} {w S S1 S2:List Int} {D z:Int} {a b x y lo hi:Rat} {σ:Int} {δ:Rat}
def NarO(S:List Int)(lo hi x y:Rat):Prop:=lo<=x/\x<=y/\y<=hi/\((x=y/\pe S x=0)\/(x<y/\sgR (pe S x)=sgR (pe S lo)/\sgR (pe S y)=sgR (pe S hi)))
def IsoO(S:List Int)(lo hi:Rat):Prop:=(lo=hi/\pe S lo=0)\/(lo<hi/\sgR (pe S lo)*sgR (pe S hi)= -1)
def NarO.iso(i:IsoO S lo hi)(h:NarO S lo hi x y):IsoO S x y:=by
 obtain ⟨_,_,_,a|⟨a,c,d⟩⟩:=h
 ·exact .inl a
 ·rcases i with ⟨rfl,_⟩|⟨_,b⟩
  ·exfalso;grind
  ·exact .inr ⟨a,by rw [c,d];exact b⟩
def SqF.aw(f:SqF w S)(h:Aw a b (pe w)):Aw a b (pe S):=by
 obtain ⟨W,G,k,i,c,g,d,_⟩:=f.ex
 exact h.factor (N:=1) (e:=fun x=>(k:Rat)*pe G x) ((Nice.const _).mul (J7 _ _ _)) gz0 fun x=>by rw [c,d];grind
def SqF.zero(f:SqF w S)(h:pe S x=0):pe w x=0:=by
 obtain ⟨W,G,k,d,a,c,b,_⟩:=f.ex
 rw [a,b,h];grind
def B7o{k l:Int}(k0:k≠0)(l0:l≠0)(h:∀ x,(k:Rat)*pe S1 x=(l:Rat)*pe S2 x):∃ s:Int,(s=1\/s= -1)/\∀ x,sgR (pe S2 x)=s*sgR (pe S1 x):=by
 have b:=D9 (k:Rat)
 have a:=D9 (l:Rat)
 have d:sgR (k:Rat)≠0:=fun z=>F6 k0 (N7.1 z)
 have c:sgR (l:Rat)≠0:=fun z=>F6 l0 (N7.1 z)
 refine ⟨sgR (k:Rat)*sgR (l:Rat),by rcases b with e|e|e<;>rcases a with e2|e2|e2<;>rw [e,e2]<;>simp<;>omega,fun x=>?_⟩
 have e:=congrArg sgR (h x)
 rw [Ds,Ds] at e
 rcases b with q|q|q<;>rcases a with q2|q2|q2<;>rw [q,q2] at e ⊢ <;> omega
def IsoO.other(f1:SqF w S1)(f2:SqF w S2)(i:IsoO S1 lo hi):IsoO S2 lo hi:=by
 obtain ⟨k,l,d,b,h⟩:=f1.prop f2
 obtain ⟨s,g,a⟩:=B7o d b h
 rcases i with ⟨e,z⟩|⟨c,z⟩
 ·refine .inl ⟨e,N7.1 ?_⟩
  rw [a,N7.2 z];omega
 ·refine .inr ⟨c,?_⟩
  rw [a,a]
  rcases g with rfl|rfl
  ·rw [Int.one_mul,Int.one_mul];exact z
  ·rw [show -1*sgR (pe S1 lo)*(-1*sgR (pe S1 hi))=sgR (pe S1 lo)*sgR (pe S1 hi) from gz0];exact z
def NarO.box(u:UvR c n w D)(f:SqF w S)(v:VD c n a b σ δ)(i:IsoO S a b)(h:NarO S a b x y):BxO c n σ a b x y:=by
 obtain ⟨G,M,H,F⟩:=h
 have E:=H0 u.pos
 have mono:=v.mono u
 have m:sgR (pe S a)*sgR (pe S b)= -1:=by
  rcases i with ⟨e,_⟩|⟨_,e⟩
  ·have:=v.lt;exfalso;grind
  ·exact e
 have T:((1:Int):Rat)=1:=rfl
 have Q:((-1:Int):Rat)= -1:=rfl
 have k:∀ {p q:Rat},(∃ ε,0<ε/\∀ z,p<=z->z<=q->ε<=abR (sQ c z n))->Aw p q (pe w):=by
  rintro p q ⟨ε,L,V⟩
  refine ⟨(D:Rat)*ε,bG E L,fun z s r=>?_⟩
  rw [u.val',S7]
  have N:abR (D:Rat)=(D:Rat):=by unfold abR;grind
  rw [N]
  have:=aI (aH E) (show 0<=abR (sQ c z n)-ε by have:=V z s r;grind)
  grind
 have absσ:∀ v:Rat,(σ:Rat)*v<=abR v/\ -((σ:Rat)*v)<=abR v:=by
  intro W
  rcases v.sg with h|h<;>rw [h]
  ·rw [T];unfold abR;constructor<;>split<;>grind
  ·rw [Q];unfold abR;constructor<;>split<;>grind
 refine ⟨G,M,H,?_,?_⟩
 ·by_cases g:(σ:Rat)*sQ c x n<=0
  ·exact g
  ·exfalso
   have g:0<(σ:Rat)*sQ c x n:=gz0
   have aw:Aw x b (pe w):=k ⟨_,g,fun z s r=>by
    have:=(absσ (sQ c z n)).1
    by_cases e:x=z
    ·rw [<- e] at this ⊢;exact this
    ·have:=mono x z G gz0 r;grind⟩
   obtain ⟨d,C,B⟩:=f.aw aw
   have l:=Re (J7 x b S) C B (aQ) (show x<=b from gz0) (aQ)
   rcases F with ⟨_,A⟩|⟨_,R,_⟩
   ·have:=f.zero A
    rw [u.val'] at this
    rcases Rat.mul_eq_zero.1 this with q|q
    ·grind
    ·rw [q] at g;grind
   ·rw [R] at l
    rw [l] at m
    rcases D9 (pe S b) with q|q|q<;>rw [q] at m<;>omega
 ·by_cases g:0<=(σ:Rat)*sQ c y n
  ·exact g
  ·exfalso
   have g:0 < -((σ:Rat)*sQ c y n):=gz0
   have aw:Aw a y (pe w):=k ⟨_,g,fun z s r=>by
    have:=(absσ (sQ c z n)).2
    by_cases e:z=y
    ·rw [e] at this ⊢;exact this
    ·have:=mono z y s gz0 H;grind⟩
   obtain ⟨d,C,B⟩:=f.aw aw
   have l:=Re (J7 a y S) C B (aQ) (show a<=y from gz0) (aQ)
   rcases F with ⟨e,A⟩|⟨_,_,O⟩
   ·rw [e] at A
    have:=f.zero A
    rw [u.val'] at this
    rcases Rat.mul_eq_zero.1 this with q|q
    ·grind
    ·rw [q] at g;grind
   ·rw [O] at l
    rw [l] at m
    rcases D9 (pe S b) with q|q|q<;>rw [q] at m<;>omega
def BxO.meet(u:UvR c n w D)(v:VD c n a b σ δ)(p:BxO c n σ a b x y)(q:BxO c n σ a b lo hi):mx x lo<=mn y hi:=by
 obtain ⟨e,d⟩:=Go.Proofs.YtbgkfnjmcjfokaaGreatDoor.meet (p:=fun z=>sQ c z n) (v.mono u) p.ax p.yb q.ax q.yb p.xy q.xy p.lo p.hi q.lo q.hi
 have:=p.xy
 have:=q.xy
 unfold mx mn
 split<;>split<;>grind
end
end Go.Proofs.YtbgkfnjmcjfokaaGreatDoor
namespace Go.Proofs.YtbgkfnjmcjfokaaGreatDoor
set_option maxRecDepth 20000
def W6{s g:Int}(hg:g≠0):s.natAbs<=(s*g).natAbs:=by
 rw [cV]
 exact Nat.le_mul_of_pos_right _ o
def B4p{s g:Int}{B C:Nat}(h1:s.natAbs<=B)(h2:g.natAbs<=C):(s*g).natAbs<=B*C:=by
 rw [cV]
 exact cJ h1 h2
section
variable {B:Nat} {s0 s1 s2 s3 g0 g1 g2:Int}
def db1(hb:g0≠0)(h:(s0*g0).natAbs<=B):s0.natAbs<=B:=cZ (W6 hb) h
def db2(g1n:g1≠0)(e0:(s0*g0).natAbs<=B)(e1:(s0*g1+s1*g0).natAbs<=B):s0.natAbs<=B:=by
 by_cases z:g0=0
 ·subst z
  have:=W6 (s:=s0) g1n
  simp at e1
  omega
 ·exact db1 z e0
def db3(g2n:g2≠0)(e0:(s0*g0).natAbs<=B)(e1:(s0*g1+s1*g0).natAbs<=B)(e2:(s0*g2+s1*g1).natAbs<=B):s0.natAbs<=B:=by
 by_cases z:g0=0
 ·subst z
  simp at e1
  by_cases a:g1=0
  ·subst a
   simp at e2
   have:=W6 (s:=s0) g2n
   omega
  ·have:=W6 (s:=s0) a
   omega
 ·exact db1 z e0
def db4(g1n:g1≠0)(e0:(s0*g0).natAbs<=B)(e1:(s0*g1+s1*g0).natAbs<=B)(e2:(s1*g1+s2*g0).natAbs<=B)(e3:(s2*g1).natAbs<=B):s1.natAbs<=B+B*B:=by
 have c:=W6 (s:=s1) g1n
 have b:=db1 g1n e3
 by_cases z:s0=0
 ·subst z
  simp at e1
  by_cases a:g0=0
  ·subst a
   simp at e2
   omega
  ·have:=W6 (s:=s1) a
   omega
 ·have c0:=W6 (s:=g0) z
  rw [Int.mul_comm] at c0
  have c1:=B4p b (show g0.natAbs<=B from o)
  omega
end
def B0t{S G W:List Int}{B:Nat}(hW:∀ i,(cf W i).natAbs<=B)(h:∀ i,cf (Ch S G) i=cf W i)(hG:Nz G)(G0:G≠[])(h2:2<=S.length)(hl:S.length+G.length<=5):∀ z∈S,z.natAbs<=B+B*B:=by
 have r:B<=B+B*B:=Nat.le_add_right _ _
 have m:∀ i,(cf (Ch S G) i).natAbs<=B:=fun i=>by rw [h];exact hW i
 clear h hW
 have c:=m 0
 have e:=m 1
 have g:=m 2
 have j:=m 3
 clear m
 rcases S with _|⟨u,_|⟨w,_|⟨s,_|⟨x,_|⟨q,S⟩⟩⟩⟩⟩
 ·simp at h2
 ·simp at h2
 ·rcases G with _|⟨k,_|⟨n,_|⟨p,_|⟨y,G⟩⟩⟩⟩
  ·exact absurd rfl G0
  ·have a:k≠0:=hG (by simp)
   simp [Ch,Ia,R6,cf] at c e
   intro z b
   simp at b
   rcases b with rfl|rfl
   ·have:=db1 a c;omega
   ·have:=db1 a e;omega
  ·have d:n≠0:=hG (by simp)
   simp [Ch,Ia,R6,cf] at c e g
   intro z b
   simp at b
   rcases b with rfl|rfl
   ·have:=db2 d c e;omega
   ·have:=db1 d g;omega
  ·have l:p≠0:=hG (by simp)
   simp [Ch,Ia,R6,cf] at c e g j
   intro z b
   simp at b
   rcases b with rfl|rfl
   ·have:=db3 l c e g;omega
   ·have:=db1 l j;omega
  ·simp at hl;omega
 ·rcases G with _|⟨k,_|⟨n,_|⟨p,G⟩⟩⟩
  ·exact absurd rfl G0
  ·have a:k≠0:=hG (by simp)
   simp [Ch,Ia,R6,cf] at c e g
   intro z b
   simp at b
   rcases b with rfl|rfl|rfl
   ·have:=db1 a c;omega
   ·have:=db1 a e;omega
   ·have:=db1 a g;omega
  ·have d:n≠0:=hG (by simp)
   simp [Ch,Ia,R6,cf] at c e g j
   intro z b
   simp at b
   rcases b with rfl|rfl|rfl
   ·have:=db2 d c e;omega
   ·exact db4 d c e g j
   ·have:=db1 d j;omega
  ·simp at hl;omega
 ·rcases G with _|⟨k,_|⟨n,G⟩⟩
  ·exact absurd rfl G0
  ·have a:k≠0:=hG (by simp)
   simp [Ch,Ia,R6,cf] at c e g j
   intro z b
   simp at b
   rcases b with rfl|rfl|rfl|rfl
   ·have:=db1 a c;omega
   ·have:=db1 a e;omega
   ·have:=db1 a g;omega
   ·have:=db1 a j;omega
  ·simp at hl;omega
 ·rcases G with _|⟨k,G⟩
  ·exact absurd rfl G0
  ·simp at hl;omega
def SqF.bound{w S:List Int}{M:Nat}(f:SqF w S)(hw:Nz w)(w0:w≠[])(hl:w.length<=4)(h2:2<=S.length)(hb:∀ i,(cf w i).natAbs<2^M):A47 (2*M+1) S:=by
 obtain ⟨W,G,c,c0,j,_,l,d,k,_⟩:=f.ex
 have y:∀ i,cf w i=c*cf W i:=fun i=>by
  rw [<- Hu]
  exact Se (fun x=>by rw [j,G9]) i
 have n:∀ i,(cf W i).natAbs<=2^M:=fun i=>by
  have:=W6 (s:=cf W i) (g:=c) o
  rw [Int.mul_comm,<- y] at this
  exact cZ this (Nat.le_of_lt (hb i))
 have m:∀ i,cf (Ch S G) i=cf W i:=fun i=>Se (fun x=>by rw [O8,l]) i
 have p:=Sk (N:=1) (u:=w) (a:=R6 c S) (b:=G) o hw (f.nz.scl o) d (by
  intro z
  apply f.ne
  have:=congrArg List.length z
  simp [R6] at this
  exact this) k (fun x=>by
   have:((1:Int):Rat)=1:=rfl
   rw [this,Rat.one_mul,j,l,G9];grind)
 have r:(R6 c S).length=S.length:=by simp [R6]
 intro z A
 have:=B0t n m d k h2 o z A
 have e:2^M+2^M*2^M<=2^(2*M+1):=by
  have q:1<=2^M:=Nat.one_le_two_pow
  have C:2^(2*M+1)=2*(2^M*2^M):=by rw [Nat.pow_succ,Nat.two_mul,Nat.pow_add];omega
  have B:=aV (2^M) q
  omega
 exact cZ this e
section
set_option maxRecDepth 100000
variable {h:aP} {K:VP}
def Qy:∀ (args:Array bN) (W:World),(callFunc 261 args).run prog W= .ok (.enter 261 args) W:=call261
def sel(a:Bool)(b c:Prop):Prop:=
 match a with
 | true=>b
 | false=>c
def C56(a:bN)(b:FuncId->Array bN->Array bN->Prop)(Y:Nat->Array bN->Prop):Prop:=
 match a with
 | .func (.func g) f c=>b g f c
 | .func (.yield l) f _=>Y l f
 | _=>False
def B1v(P:Program)(W:OA)(X a0:Nat)(n:OA)(o A:Nat)(a1:OA)(a2 a3:Nat)(b:Int)(a4:aX)(a5:aX)(h:aP)(K:VP):Prop:=
 ∃ G,Ax n G b o <| ∃ H,h.cell? (G.add (b.toNat*1))=some (I H)/\aR P 126 #[Sl n o A] h (fun b3 f=>∃ L M c4,b3=Sl L M c4/\h.le f/\∃ N,Ax L N b M <| ∃ O,f.cell? (N.add (b.toNat*1))=some (I O)/\∀ (c a6:Nat) (p:aP),f c=none->p=Heap.put f c (.cells #[Sl W X a0,Sl n o A,Sl a1 a2 a3] a6)->∀ (q a7:Nat) (r:aP),p q=none->r=Heap.put p q (.cells #[I b] a7)->∀ (s a8:Nat) (t:aP),r s=none->t=Heap.put r s (.cells #[.func (.func 129) #[] #[Pt a4,Pt a5]] a8)->∀ (u a9:Nat) (v:aP),t u=none->v=Heap.put t u (.cells #[I O] a9)->∀ (w b0:Nat) (x:aP),v w=none->x=Heap.put v w (.cells #[I H] b0)->∃ Q R S,Hd x (aN (⟨c,0,none⟩) 1) Q R S<|aR P 198 #[Sl Q R S] x (fun b4 b5=>∃ (B:bN),b4=B/\Wj P (B) b5 (fun (b1:List bN) (a:aP) (d:aP->Prop)=>∃ (e:Int) (C:OA) (D b2:Nat),b1=[I e,.slice C D b2]/\∃ z,a.cell? (⟨q,0,none⟩)=some (I z)/\∃ T,Ax C T z D <| ∃ V,a.cell? (T.add (z.toNat*1))=some (I V)/\Br (V==0) (∃ (E:bN),a.cell? (⟨s,0,none⟩)=some (E)/\∃ i j k,Hd a (aN (⟨c,0,none⟩) 2) i j k <| ∃ l,a.cell? (⟨u,0,none⟩)=some (I l)/\∃ m,a.cell? (⟨w,0,none⟩)=some (I m)/\C56 E (fun y g F=>sel (has B69 y) (aR P y (g ++ #[.agg #[Sl i j k,I e,I l,I m]]++F) a (fun b6 b7=>b6=T0/\d b7)) (ECall P y (g ++ #[.agg #[Sl i j k,I e,I l,I m]]++F) a (fun b8 b9=>b8=T0/\d b9))) (fun c0 g=>YCall P c0 (g ++ #[.agg #[Sl i j k,I e,I l,I m]]) a (fun c1 c2=>c1=T0/\d c2)))
 (d a))
 (fun c3=>K (T0) c3)))
def A74(a:OA)(b c:Nat)(d:OA)(e f:Nat)(g:OA)(i j:Nat)(k:Int)(l:aX)(m:aX)(hvc:B1v prog a b c d e f g i j k l m h K):aR prog 128 #[.agg #[Sl a b c,Sl d e f,Sl g i j],I k,.func (.func 129) #[] #[Pt l,Pt m]] h K:=
 C24 bod func128 [] { orders:=[(1,([11,12,0,1,3,6,7,8,9,10,2,4,5,13,14],[]))],rounds:=[(5,[I 0,N0]),(3000002,[.int .i64 3,.int .i64 4,.int .i64 5,.int .i64 6,.int .i64 7])] } 39 [3,4,5,6,7] B69 [129] (by kernel_rfl) hvc
end
def tI(z:Int):List UInt8:=C0 (z:Rat)
def Sm(z:Int):Prop:=z.natAbs<=1000000
def Sm.sz{z:Int}(s:Sm z):Sz 20 ((z:Int):Rat):=Sz.int (show z.natAbs<2^20 by unfold Sm at s;omega) o
def Sm.tx{z:Int}(s:Sm z):Tx 20 (tI z):=Tx.of s.sz o
def Nu(z:Int):rv (tI z)=(z:Rat):=C2 _
def AllSm(z:List Int):Prop:=∀ x∈z,x.natAbs<=1000000
def AllSm.get{z:List Int}(s:AllSm z)(k:Nat):Sm (z.getD k 0):=by
 by_cases a:k<z.length
 ·rw [aE,aT a];exact s _ (bI a)
 ·rw [aE,List.getElem?_eq_none o];exact Nat.zero_le _
section
variable {h g:aP} {K:VP} {a c:Int} {b cc:Nat} {z:List Int}
def Vg(gl:Gl h)(ha:Sm a)(hc:Sm c)(hK:K (.string (bs (tI (a+c)))) h):aR prog 142 #[.string (bs (tI a)),.string (bs (tI c))] h K:=by
 refine Gt gl ha.tx hc.tx o ?_
 rw [Nu,Nu,<- bM];exact hK
def A5u(gl:Gl h)(ha:Sm a)(hc:Sm c)(hK:K (.string (bs (tI (a-c)))) h):aR prog 127 #[.string (bs (tI a)),.string (bs (tI c))] h K:=by
 refine Rr gl ha.tx hc.tx o ?_
 rw [Nu,Nu,<- bK];exact hK
def Nt(gl:Gl h)(ha:Sm a)(hc:Sm c)(hK:K (.string (bs (tI (a*c)))) h):aR prog 17 #[.string (bs (tI a)),.string (bs (tI c))] h K:=by
 refine P1 gl ha.tx hc.tx o ?_
 rw [Nu,Nu,<- aF];exact hK
def A5v(gl:Gl h)(ha:Sm (a*c))(hc:Sm c)(h0:c≠0)(hK:K (.tuple #[.string (bs (tI a)),.bool true]) h):aR prog 201 #[.string (bs (tI (a*c))),.string (bs (tI c))] h K:=by
 have b:((c:Int):Rat)≠0:=by
  intro e;apply h0;exact Rat.intCast_eq_zero_iff.1 e
 refine Lf gl ha.tx hc.tx o o (fun _=>?_) (fun e=>?_)
 ·rw [Nu,Nu,aF,Rat.mul_div_cancel b];exact hK
 ·rw [Nu] at e;exact absurd e b
def Uf(gl:Gl h)(ha:Sm a)(hK:K (.string (bs (tI a))) h):aR prog 113 #[I a] h K:=by
 unfold Sm at ha
 refine (fnk func113) ?_
 refine Dd gl.p10 o o ⟨_,rfl,?_⟩
 unfold tI at hK
 rw [Wt (by simp)] at hK
 simpa using hK
def Cf(g:aP)(b:Nat)(z:List Int):aP:=W9 9 g b (z.map tI)
def Cf.cell(k:Nat)(hk:k<z.length):(Cf g b z).cell? (aN ⟨b,0,none⟩ (k*1))=some (.string (bs (tI (z.getD k 0)))):=by
 rw [D4,Nat.mul_one,aZ]
 unfold Cf W9
 rw [C4]
 have e:(z.map tI).flatMap enc=(z.map tI).map fun l=>aK (bs l):=Yo _
 rw [e,bH,List.map_map,List.getElem?_map,aT hk,aE,aT hk];rfl
def B9m{k:Nat}(hk:k<3){ki:Int}(e:ki=(k:Int)):B9 ((0:Int)+B9 (ki*1))=(k:Int):=by
 subst e
 rw [Int.mul_one,Bf o,Int.zero_add,Bf o]
def Bo(hz:z.length=3)(k:Nat)(hk:k<3){ki:Int}(e:ki=(k:Int))(hK:K (.string (bs (tI (z.getD k 0)))) (Cf g b z)):aR prog 200 #[.agg #[.slice (some ⟨b,0,none⟩) 3 cc,I 0,I 1,I 2],I ki] (Cf g b z) K:=by
 refine (fnk func200 (own:=[2])) ?_
 rw [B9m hk e]
 exact ⟨_,rfl,o,o,_,Cf.cell k o,hK⟩
def Ix(hz:z.length=3)(k:Nat)(hk:k<3){ki:Int}(e:ki=(k:Int)){x:Int}(hK:K (.tuple #[]) (Cf g b (z.set k x))):aR prog 199 #[.agg #[.slice (some ⟨b,0,none⟩) 3 cc,I 0,I 1,I 2],I ki,.string (bs (tI x))] (Cf g b z) K:=by
 refine (fnk func199 (own:=[3])) ?_
 rw [B9m hk e]
 refine ⟨_,rfl,o,o,?_⟩
 refine Bv (α:=List UInt8) Am (y:=tI x) rfl (by rw [cD];omega) ?_
 have:(z.map tI).set ((k:Int)).toNat (tI x)=(z.set k x).map tI:=(List.map_set ..).symm
 rw [this];exact hK
def C2t:Nat->Int
 | 1=>2
 | _=>1
def Tn(gl:Gl h)(k:Nat)(hk:k<=2)(hK:K (.string (bs (tI (C2t k)))) h):aR prog 202 #[I 2,I (k:Int)] h K:=by
 refine (fnk func202 [(3,[5,8],[],[I 0,I 0])]) ?_
 refine ⟨fun L a=>∃ i:Nat,i<=k/\L=[I (C2t i),I (i:Int)]/\a=h,fun L _=>k-(iAt L 1).toNat,⟨0,o,rfl,rfl⟩,?_⟩
 rintro v t a ⟨i,j,b,rfl⟩
 simp only [aJ,aO,true_and,and_true] at b
 obtain ⟨rfl,rfl⟩:=b
 refine B4 (fun e=>B4 (fun g=>?_) (fun _=>?_)) (fun d=>?_)
 ·rw [B5 o o] at g;omega
 ·have c:i=0\/i=1:=o
  refine ⟨⟨i+1,o,?_,rfl⟩,?_⟩
  ·rcases c with rfl|rfl<;>rfl
  ·rcases c with rfl|rfl
   ·show k-1<k-0;omega
   ·show k-2<k-1;omega
 ·obtain rfl:i=k:=o
  exact Uf gl (by unfold Sm;match i,hk with|0,_=>decide|1,_=>decide|2,_=>decide) ⟨_,rfl,hK⟩
end
def shn(z:List Int):Nat->List Int
 | 0=>z
 | n+1=>(shn z n).set (1-n) ((shn z n).getD (1-n) 0 + -1*(shn z n).getD (1-n+1) 0)
def sho:Nat->List Int
 | 0=>[-2,0,1]
 | i+1=>shn (sho i) (2-i)
def scn:Nat->List Int
 | 0=>sho 2
 | k+1=>(scn k).set (k+1) (2^(k+1)*(scn k).getD (k+1) 0)
def bdn:Nat->List Int
 | 0=>scn 2
 | k+1=>(bdn k).set k ((bdn k).getD k 0/C2t k)
def bsn(z:List Int):Nat->List Int
 | 0=>z
 | n+1=>(bsn z n).set (2-n) ((bsn z n).getD (2-n) 0+(bsn z n).getD (1-n) 0)
def bso:Nat->List Int
 | 0=>bdn 3
 | i+1=>bsn (bso i) (2-i)
def C3d:bso 2=[-1,-3,-1]:=dc
def B2u:∀ i,i<3->∀ n,n<3->(shn (sho i) n).length=3/\∀ x∈shn (sho i) n,x.natAbs<=1000000:=dc
def B2v:∀ i,i<3->(scn i).length=3/\∀ x∈scn i,x.natAbs<=1000000:=dc
def B4i:∀ i,i<4->(bdn i).length=3/\∀ x∈bdn i,x.natAbs<=1000000:=dc
def C2u:∀ i,i<3->((bdn i).getD i 0/C2t i)*C2t i=(bdn i).getD i 0:=dc
def B4g:∀ i,i<3->∀ n,n<3->(bsn (bso i) n).length=3/\∀ x∈bsn (bso i) n,x.natAbs<=1000000:=dc
def C3n:tI (-1)=[45,49]:=B9r
def Sm.neg1{z:Int}(s:Sm z):Sm (-1*z):=by unfold Sm at *;omega
section
variable {h g:aP} {K:VP} {b cc:Nat}
def Gl.cf(gl:Gl g)(hb:g b=none)(z:List Int):Gl (Cf g b z):=gl.mono (R1 hb _)
def A1r(gl:Gl g)(hb:g b=none)(hK:K (.tuple #[]) (Cf g b (sho 2))):aR prog 130 #[.agg #[.slice (some ⟨b,0,none⟩) 3 cc,I 0,I 1,I 2],.string (bs (tI (-1)))] (Cf g b (sho 0)) K:=by
 refine (fnk func130 [(3,[10],[],[I 0]),(6,[5],[],[I 0])] (os:=[(8,[0,1,2,3,5,6,7,8,4,9,10,11,12])]) (own:=[2]) (wr:=[199])) ?_
 have e:(ByteArray.toList (bs (tI (-1)))==ByteArray.toList ({ data:=#[48] }:ByteArray))=false:=by
  rw [Hv,C3n,ByteArray.toList_eq];decide
 rw [e]
 refine Br.of (fun e=>by cases e) (fun _=>?_)
 refine ⟨fun L a=>∃ i:Nat,i<=2/\L=[I (i:Int)]/\a=Cf g b (sho i),fun L _=>2-(iAt L 0).toNat,⟨0,o,rfl,rfl⟩,?_⟩
 rintro t a ⟨i,r,d,rfl⟩
 obtain rfl:=sI1 d
 refine B4 (fun q=>?_) (fun m=>?_)
 ·refine ⟨fun L a=>∃ n:Nat,n<=2-i/\L=[I (1-(n:Int))]/\a=Cf g b (shn (sho i) n),fun L _=>(iAt L 0+1).toNat,⟨0,o,by rw [B5 o o];rfl,rfl⟩,?_⟩
  rintro k a ⟨n,s,d,rfl⟩
  obtain rfl:k=1-(n:Int):=by simpa using d
  obtain ⟨c,p⟩:=B2u i o n o
  have sm:AllSm (shn (sho i) n):=p
  refine B4 (fun l=>?_) (fun j=>?_)
  ·refine Bo c (1-n) o o ⟨_,rfl,B0 _,?_⟩
   refine Bo c (1-n+1) o (by rw [B5 o o];omega) ⟨_,rfl,B0 _,?_⟩
   refine Nt (gl.cf hb _) (by unfold Sm;decide) (sm.get _) ⟨_,rfl,B0 _,?_⟩
   refine Vg (gl.cf hb _) (sm.get _) (sm.get _).neg1 ⟨_,rfl,B0 _,?_⟩
   refine Ix c (1-n) o o ⟨rfl,?_⟩
   rw [B5 o o]
   exact ⟨⟨n+1,o,by congr 2;omega,rfl⟩,by show (_:Int).toNat<(_:Int).toNat;simp only [Ca];omega⟩
  ·obtain rfl:n=2-i:=o
   rw [B5 o o]
   exact ⟨⟨i+1,o,rfl,rfl⟩,by simp only [Ca];omega⟩
 ·obtain rfl:i=2:=o
  exact hK
def A1s(gl:Gl g)(hb:g b=none)(hK:K (.tuple #[]) (Cf g b (scn 2))):aR prog 131 #[.agg #[.slice (some ⟨b,0,none⟩) 3 cc,I 0,I 1,I 2],.string (bs (tI 2))] (Cf g b (scn 0)) K:=by
 refine (fnk func131 [(3,[4,5],[],[.string ⟨#[]⟩,I 0])] (own:=[2]) (wr:=[199])) ?_
 refine ⟨fun L a=>∃ n:Nat,n<=2/\L=[.string (bs (tI (2^(n+1)))),I ((n:Int)+1)]/\a=Cf g b (scn n),fun L _=>3-(iAt L 1).toNat,⟨0,o,rfl,rfl⟩,?_⟩
 rintro pw k a ⟨n,m,e,rfl⟩
 simp only [aJ,aO,Value.string.injEq,true_and,and_true] at e
 obtain ⟨rfl,rfl⟩:=e
 obtain ⟨c,i⟩:=B2v n o
 have sm:AllSm (scn n):=i
 refine B4 (fun l=>?_) (fun j=>?_)
 ·refine Bo c (n+1) o o ⟨_,rfl,B0 _,?_⟩
  have d:Sm (2^(n+1)):=by
   have:n=0\/n=1:=o
   rcases this with rfl|rfl<;>(unfold Sm;decide)
  refine Nt (gl.cf hb _) d (sm.get _) ⟨_,rfl,B0 _,?_⟩
  refine Ix c (n+1) o o ⟨rfl,?_⟩
  refine Nt (gl.cf hb _) d (by unfold Sm;decide) ⟨_,rfl,?_⟩
  rw [B5 o o]
  exact ⟨⟨n+1,o,by rw [Int.pow_succ 2 (n+1)];rfl,rfl⟩,by show 3-((n:Int)+1+1).toNat<3-((n:Int)+1).toNat;omega⟩
 ·obtain rfl:n=2:=o
  exact hK
def Nb(gl:Gl g)(hb:g b=none)(hK:K (.tuple #[]) (Cf g b (bso 2))):aR prog 132 #[.agg #[.slice (some ⟨b,0,none⟩) 3 cc,I 0,I 1,I 2]] (Cf g b (bdn 0)) K:=by
 refine (fnk func132 [(2,[10],[],[I 0]),(8,[5],[],[I 0]),(11,[6],[],[I 0])] (os:=[(4,[0,1,3,4,5,2,6,7,8,9,10,11,12]),(13,[0,1,2,3,5,6,7,4,8,9,10])]) (own:=[1]) (wr:=[199])) ?_
 refine ⟨fun L c=>∃ n:Nat,n<=3/\L=[I (n:Int)]/\c=Cf g b (bdn n),fun L _=>3-(iAt L 0).toNat,⟨0,o,rfl,rfl⟩,?_⟩
 rintro k c ⟨n,s,m,rfl⟩
 obtain rfl:=sI1 m
 obtain ⟨d,p⟩:=B4i n o
 have sm:AllSm (bdn n):=p
 refine B4 (fun l=>?_) (fun j=>?_)
 ·rw [B5 o o] at l
  have a:n<3:=o
  refine Bo d n a rfl ⟨_,rfl,B0 _,?_⟩
  refine Tn (gl.cf hb _) n o ⟨_,rfl,B0 _,?_⟩
  have e:=C2u n a
  rw [<- e]
  refine A5v (gl.cf hb _) (by rw [e];exact sm.get _) (by unfold Sm;match n,a with|0,_=>decide|1,_=>decide|2,_=>decide) (by match n,a with|0,_=>decide|1,_=>decide|2,_=>decide) ⟨_,_,rfl,B0 _,?_⟩
  refine Ix d n a rfl ⟨rfl,?_⟩
  rw [B5 o o]
  exact ⟨⟨n+1,o,rfl,rfl⟩,by simp only [Ca];omega⟩
 ·rw [B5 o o] at j
  obtain rfl:n=3:=o
  refine ⟨fun L c=>∃ i:Nat,i<=2/\L=[I ((i:Int)+1)]/\c=Cf g b (bso i),fun L _=>3-(iAt L 0).toNat,⟨0,o,rfl,rfl⟩,?_⟩
  rintro t c ⟨i,u,m,rfl⟩
  obtain rfl:t=(i:Int)+1:=by simpa using m
  refine B4 (fun l=>?_) (fun j=>?_)
  ·refine ⟨fun L c=>∃ n:Nat,n<=2-i/\L=[I (2-(n:Int))]/\c=Cf g b (bsn (bso i) n),fun L _=>(iAt L 0+1).toNat,⟨0,o,rfl,rfl⟩,?_⟩
   rintro k c ⟨n,s,m,rfl⟩
   obtain rfl:k=2-(n:Int):=by simpa using m
   obtain ⟨d,p⟩:=B4g i o n o
   have sm:AllSm (bsn (bso i) n):=p
   refine B4 (fun q=>?_) (fun r=>?_)
   ·refine Bo d (2-n) o o ⟨_,rfl,B0 _,?_⟩
    refine Bo d (1-n) o (by rw [B5 o o];omega) ⟨_,rfl,B0 _,?_⟩
    refine Vg (gl.cf hb _) (sm.get _) (sm.get _) ⟨_,rfl,B0 _,?_⟩
    refine Ix d (2-n) o o ⟨rfl,?_⟩
    rw [B5 o o]
    exact ⟨⟨n+1,o,by congr 2;omega,rfl⟩,by show (_:Int).toNat<(_:Int).toNat;simp only [Ca];omega⟩
   ·obtain rfl:n=2-i:=o
    rw [B5 o o]
    exact ⟨⟨i+1,o,by congr 2,rfl⟩,by show 3-(_:Int).toNat<3-(_:Int).toNat;simp only [Ca];omega⟩
  ·obtain rfl:i=2:=o
   exact hK
def A1y{f0 f1:aX}(gl:Gl g)(hb:g b=none)(e0:g.cell? (aN f0 0)=some (.string (bs (tI (-1)))))(e1:g.cell? f1=some (.string (bs (tI 2))))(hK:K (.tuple #[]) (Cf g b (bso 2))):
 aR prog 129 #[.agg #[.slice (some ⟨b,0,none⟩) 3 cc,I 0,I 1,I 2],.pointer (some f0),.pointer (some f1)] (Cf g b (sho 0)) K:=by
 refine (fnk func129 (own:=[3]) (wr:=[130,131,132])) ?_
 refine ⟨_,B7 (R1 hb _) e0,?_⟩
 refine A1r gl hb ⟨rfl,_,B7 (R1 hb _) e1,?_⟩
 refine A1s gl hb ⟨rfl,?_⟩
 exact Nb gl hb ⟨rfl,hK⟩
end
def If(g:aP)(b:Nat)(x:Int):aP:=W9 3 g b [x]
def If.cell{g:aP}{b:Nat}{x:Int}:(If g b x).cell? (aN ⟨b,0,none⟩ ((0:Int).toNat*1))=some (I x):=by
 rw [D4]
 unfold If W9
 rw [C4];rfl
def If.sl{g:aP}{b:Nat}{x:Int}:SlV (If g b x) (some ⟨b,0,none⟩) [I x]:=U4 3 g b [x]
def Cf.comm{g:aP}{b p:Nat}{z:List Int}{o:Obj}(hp:b≠p):(Cf g b z).put p o=Cf (g.put p o) b z:=Heap.put_comm _ _ _ hp
def Cf.ne{g:aP}{b p:Nat}{z:List Int}(hp:Cf g b z p=none):b≠p:=by
 rintro rfl
 unfold Cf W9 at hp
 rw [B8] at hp;cases hp
def Cf.none{g:aP}{b p:Nat}{z:List Int}(hp:Cf g b z p=none):g p=none:=by
 have:=Cf.ne hp
 unfold Cf W9 at hp
 rwa [B6 _ _ (Ne.symm this)] at hp
def X9{g:aP}{b p:Nat}{o:Obj}(hb:g b=none)(hp:b≠p):g.put p o b=none:=by rw [B6 _ _ hp];exact hb
def Jf{h:aP}{A:Option aX}{x:Int}(s:SlV h A [I x]):∃ a,A=some a/\h.cell? (aN a ((0:Int).toNat*1))=some (I x):=by
 obtain ⟨a,rfl,c⟩:=Fl s
 exact ⟨a,rfl,c⟩
section
variable {h g:aP} {K:VP} {b cc dc:Nat} {A D:Option aX}
def Jl(sd:SlV h D [I 2])(hK:∀ A' h',h.le h'->SlV h' A' [I 1]->K (.slice A' 1 1) h'):aR prog 126 #[.slice D 1 dc] h K:=by
 refine (fnk func126 [(4,[4,5],[],[I 0,I 0])]) ?_
 refine D8 Qh (zx:=(0:Int)) rfl o o o o ?_
 intro b j
 refine ⟨_,_,_,rfl,?_⟩
 have e:∀ x,h.le (If h b x):=fun x=>R1 j _
 refine ⟨fun L d=>(L=[I 1,I 0]/\d=If h b 0)\/(L=[I 3,I (-1)]/\d=If h b 1),fun L _=>(iAt L 1+1).toNat,.inl ⟨by rw [B5 o o];rfl,rfl⟩,?_⟩
 rintro st i d (⟨c,rfl⟩|⟨c,rfl⟩)
 ·simp only [aJ,aO,true_and,and_true] at c
  obtain ⟨rfl,rfl⟩:=c
  obtain ⟨a,rfl,c0⟩:=Jf sd
  refine B4 (fun _=>?_) (fun g=>o)
  refine ⟨_,rfl,o,o,?_⟩
  refine Bv (α:=Int) Do (y:=(1:Int)) rfl (xs:=[0]) (i:=0) (by decide) ?_
  refine ⟨_,rfl,o,o,_,B7 (e 1) c0,?_⟩
  refine ⟨.inr ⟨?_,rfl⟩,?_⟩
  ·rw [B5 (n:=(2:Int)+1) o o,B5 o o,B5 o o];rfl
  ·show (B9 ((0:Int)-1)+1).toNat<((0:Int)+1).toNat
   rw [B5 o o];decide
 ·simp only [aJ,aO,true_and,and_true] at c
  obtain ⟨rfl,rfl⟩:=c
  exact B4 (fun g=>o) (fun _=>hK _ _ (e 1) If.sl)
def Hy(sd:SlV h D [I 2])(hK:K (.tuple #[I 3,.bool true]) h):aR prog 124 #[.slice D 1 dc] h K:=by
 refine (fnk func124 [(3,[4,9],[],[I 0,I 0])]) ?_
 refine ⟨fun L c=>(L=[I 1,I 0]\/L=[I 3,I 1])/\c=h,fun L _=>(1-iAt L 1).toNat,⟨.inl rfl,rfl⟩,?_⟩
 rintro st i c ⟨b|b,rfl⟩
 ·simp only [aJ,aO,true_and,and_true] at b
  obtain ⟨rfl,rfl⟩:=b
  obtain ⟨a,rfl,c0⟩:=Jf sd
  refine B4 (fun _=>?_) (fun d=>o)
  refine ⟨_,rfl,o,o,_,c0,?_⟩
  rw [B5 (n:=(2:Int)+1) o o,B5 o o,Jq]
  exact B4 (fun d=>o) (fun _=>⟨⟨.inr rfl,rfl⟩,W8⟩)
 ·simp only [aJ,aO,true_and,and_true] at b
  obtain ⟨rfl,rfl⟩:=b
  exact B4 (fun d=>o) (fun _=>hK)
def A8m{p:aX}{l0:Nat}(zz:Nat->List Int)(hb:g b=none)(ep:g.cell? p=some (.slice D 1 dc))(sd:SlV g D [I 2]){B:List bN->aP->(aP->Prop)->Prop}{KK:aP->Prop}
 (hB:∀ (k:Nat) g1 A,k<3->g.le g1->g1 b=none->SlV g1 A [I (k:Int)]->B [I (k:Int),.slice A 1 1] (Cf g1 b (zz k)) (fun h3=>h3=Cf g1 b (zz (k+1)))) (hK:∀ g1,g.le g1->g1 b=none->KK (Cf g1 b (zz 3))):
 Wj prog (.func (.func 261) #[] #[.pointer (some p)]) (Cf g b (zz 0)) B KK:=by
 refine ⟨261,#[],#[.pointer (some p)],rfl,Qy,?_⟩
 intro l rec O m
 show aR _ _ #[.func (.yield l) #[] #[],.pointer (some p)] _ _
 refine (fnk func261 [(3,[4],[],[I 0]),(5,[5],[],[I 0])]) ?_
 have u:=Cf.ne O
 have F:=Cf.none O
 have R:g.le (Cf g b (zz 0)):=R1 hb _
 have N:g.le ((Cf g b (zz 0)).put l (.loop rec)):=A0 R (Heap.le_put _ O)
 refine ⟨_,_,_,B7 N ep,?_⟩
 refine D8 Qh (zx:=(0:Int)) rfl o o o o ?_
 intro c d
 refine ⟨_,_,_,rfl,?_⟩
 have j:l≠c:=by rintro rfl;rw [B8] at d;cases d
 rw [B6 _ _ (Ne.symm j)] at d
 have C:=Cf.ne d
 have H:=Cf.none d
 have q:∀ x,g.le (If g c x):=fun x=>R1 H _
 have n:∀ x,If g c x b=none:=fun x=>X9 hb C
 have a:∀ x z,W9 3 ((Cf g b z).put l (.loop rec)) c [x]=(Cf (If g c x) b z).put l (.loop rec):=fun x z=>by
  show Heap.put (Heap.put _ _ _) _ _=_
  rw [Heap.put_comm _ _ _ j]
  show Heap.put (Heap.put (Cf g b z) c _) l _=_
  rw [Cf.comm C];rfl
 have Q:∀ x z,g.le ((Cf (If g c x) b z).put l (.loop rec)):=fun x z=>by
  have h1:(Cf (If g c x) b z) l=none:=by
   unfold Cf W9
   rw [B6 _ _ (Ne.symm u)]
   exact X9 F j
  exact A0 (q x) (A0 (R1 (n x) _) (Heap.le_put _ h1))
 have E:∀ x z,(Cf (If g c x) b z) l=none:=fun x z=>by
  unfold Cf W9
  rw [B6 _ _ (Ne.symm u)]
  exact X9 F j
 have T:∀ (x:Int) z,((Cf (If g c x) b z).put l (.loop rec)).cell? (aN ⟨c,0,none⟩ ((0:Int).toNat*1))=some (I x):=fun x z=>by
  rw [<- a,D4]
  unfold W9
  rw [C4];rfl
 obtain ⟨ad,rfl,c0⟩:=Jf sd
 refine ⟨fun L s=>∃ k:Nat,k<3/\L=[I (k:Int)]/\s=(Cf (If g c (k:Int)) b (zz k)).put l (.loop rec),fun L _=>3-(iAt L 0).toNat,⟨0,o,rfl,by rw [<- a];rfl⟩,?_⟩
 rintro t s ⟨k,X,w,rfl⟩
 obtain rfl:=sI1 w
 refine (m _ _ _ (E _ _) (hB k (If g c (k:Int)) (some ⟨c,0,none⟩) X (q _) (n _) If.sl)).mono ?_
 rintro r h2 ⟨rfl,h3,aa,rfl,rfl⟩
 refine ⟨_,rfl,Br.nt ?_⟩
 refine ⟨_,_,_,B7 (Q _ _) ep,?_⟩
 have V:B9 (((1:Nat):Int)-1)=0:=by rw [B5 o o];rfl
 have S:B9 ((0:Int)-1)= -1:=by rw [B5 o o];rfl
 refine ⟨fun L s=>(L=[I 0]/\s=(Cf (If g c (k:Int)) b (zz (k+1))).put l (.loop rec))\/(k=2/\L=[I (-1)]/\s=(Cf (If g c 0) b (zz (k+1))).put l (.loop rec)),fun L _=>(iAt L 0+1).toNat,.inl ⟨by rw [V],rfl⟩,?_⟩
 rintro i s (⟨w,rfl⟩|⟨G,w,rfl⟩)
 ·obtain rfl:i=0:=by simpa using w
  refine B4 (fun _=>?_) (fun M=>o)
  refine ⟨_,rfl,o,o,_,T _ _,_,_,_,B7 (Q _ _) ep,_,rfl,o,o,_,B7 (Q _ _) c0,?_⟩
  refine C8 (fun e=>?_) (fun e=>?_)
  ·refine ⟨_,rfl,o,o,?_⟩
   rw [<- a]
   refine Bv (α:=Int) Do (y:=(0:Int)) rfl (xs:=[(k:Int)]) (i:=0) (by show 0<1;omega) ?_
   refine ⟨.inr ⟨o,by rw [S],a 0 _⟩,?_⟩
   show (B9 ((0:Int)-1)+1).toNat<((0:Int)+1).toNat
   rw [S];decide
  ·refine B4 (fun M=>o) (fun _=>?_)
   have W:k<2:=by
    have:k≠2:=fun e2=>e (by subst e2;rfl)
    omega
   refine ⟨_,rfl,o,o,_,T _ _,_,rfl,o,o,?_⟩
   rw [<- a _ (zz (k+1))]
   have ek:B9 ((k:Int)+1)=((k+1:Nat):Int):=by rw [B5]<;>omega
   rw [ek]
   refine Bv (α:=Int) Do (v:=I ((k+1:Nat):Int)) (y:=((k+1:Nat):Int)) rfl (xs:=[(k:Int)]) (i:=0) (by show 0<1;omega) ?_
   exact ⟨⟨k+1,o,rfl,a _ _⟩,by simp only [Ca];omega⟩
 ·obtain rfl:i= -1:=by simpa using w
  subst G
  refine B4 (fun M=>o) (fun _=>B4 (fun _=>?_) (fun M=>o))
  exact ⟨_,E _ _,rfl,hK _ (q _) (n _)⟩
def A1v{BA:Option aX}{bn bc:Nat}{f0 f1:aX}(gl:Gl g)(hb:g b=none)(sd:SlV g D [I 2])(e0:g.cell? (aN f0 0)=some (.string (bs (tI (-1)))))(e1:g.cell? f1=some (.string (bs (tI 2))))(hK:∀ g',g.le g'->g' b=none->K (.tuple #[]) (Cf g' b (bso 2))):
 aR prog 128 #[.agg #[.slice BA bn bc,.slice D 1 dc,.slice (some ⟨b,0,none⟩) 3 cc],I 0,.func (.func 129) #[] #[.pointer (some f0),.pointer (some f1)]] (Cf g b (sho 0)) K:=by
 refine A74 _ _ _ _ _ _ _ _ _ _ _ _ ?_
 unfold B1v
 have lg:=R1 (e:=9) hb ((sho 0).map tI)
 have w:=SlV.mono lg sd
 obtain ⟨i,rfl,c0⟩:=Jf w
 refine ⟨i,rfl,oo,oo,_,c0,?_⟩
 refine Jl w ?_
 intro A1 h1 l1 s1
 obtain ⟨a1,rfl,c1⟩:=Jf s1
 refine ⟨_,_,_,rfl,l1,a1,rfl,oo,oo,_,c1,?_⟩
 obtain ⟨g1,ae,ac,rfl⟩:=Pd hb l1
 intro M G h2 n0 N
 have N:h2=Cf (g1.put M _) b (sho 0):=N.trans (Cf.comm (Cf.ne n0))
 have k0:=X9 (o:=.cells #[.slice BA bn bc,.slice (some i) 1 dc,.slice (some ⟨b,0,none⟩) 3 cc] G) ac (Cf.ne n0)
 have l2:=Heap.le_put (.cells #[.slice BA bn bc,.slice (some i) 1 dc,.slice (some ⟨b,0,none⟩) 3 cc] G) (Cf.none n0)
 have a:∀ j,(g1.put M (.cells #[.slice BA bn bc,.slice (some i) 1 dc,.slice (some ⟨b,0,none⟩) 3 cc] G)).cell? ⟨M,j,none⟩=(#[.slice BA bn bc,.slice (some i) 1 dc,.slice (some ⟨b,0,none⟩) 3 cc]:Array bN)[j]? :=fun j=>C4 _ _ _ _ _ _
 generalize hg2:g1.put M (.cells #[.slice BA bn bc,.slice (some i) 1 dc,.slice (some ⟨b,0,none⟩) 3 cc] G)=g2 at *
 subst N
 intro H L h3 n1 x1
 have x1:h3=Cf (g2.put H _) b (sho 0):=x1.trans (Cf.comm (Cf.ne n1))
 have k1:=X9 (o:=.cells #[I 0] L) k0 (Cf.ne n1)
 have l3:=Heap.le_put (.cells #[I 0] L) (Cf.none n1)
 have l:(g2.put H (.cells #[I 0] L)).cell? ⟨H,0,none⟩=some (I 0):=C4 _ _ _ _ _ _
 generalize hg3:g2.put H (.cells #[I 0] L)=g3 at *
 subst x1
 intro C A h4 n2 x2
 have x2:h4=Cf (g3.put C _) b (sho 0):=x2.trans (Cf.comm (Cf.ne n2))
 have k2:=X9 (o:=.cells #[.func (.func 129) #[] #[.pointer (some f0),.pointer (some f1)]] A) k1 (Cf.ne n2)
 have l4:=Heap.le_put (.cells #[.func (.func 129) #[] #[.pointer (some f0),.pointer (some f1)]] A) (Cf.none n2)
 have m:(g3.put C (.cells #[.func (.func 129) #[] #[.pointer (some f0),.pointer (some f1)]] A)).cell? ⟨C,0,none⟩=some (.func (.func 129) #[] #[.pointer (some f0),.pointer (some f1)]):=C4 _ _ _ _ _ _
 generalize hg4:g3.put C (.cells #[.func (.func 129) #[] #[.pointer (some f0),.pointer (some f1)]] A)=g4 at *
 subst x2
 intro y B h5 R Q
 have Q:h5=Cf (g4.put y _) b (sho 0):=Q.trans (Cf.comm (Cf.ne R))
 have k3:=X9 (o:=.cells #[I 1] B) k2 (Cf.ne R)
 have l5:=Heap.le_put (.cells #[I 1] B) (Cf.none R)
 have r:(g4.put y (.cells #[I 1] B)).cell? ⟨y,0,none⟩=some (I 1):=C4 _ _ _ _ _ _
 generalize hg5:g4.put y (.cells #[I 1] B)=g5 at *
 subst Q
 intro z E h6 V O
 have O:h6=Cf (g5.put z _) b (sho 0):=O.trans (Cf.comm (Cf.ne V))
 have k4:=X9 (o:=.cells #[I 2] E) k3 (Cf.ne V)
 have l6:=Heap.le_put (.cells #[I 2] E) (Cf.none V)
 have n:(g5.put z (.cells #[I 2] E)).cell? ⟨z,0,none⟩=some (I 2):=C4 _ _ _ _ _ _
 generalize hg6:g5.put z (.cells #[I 2] E)=g6 at *
 subst O
 have s:=A0 l4 (A0 l5 l6)
 have q:=A0 l3 s
 have c:g.le g6:=A0 ae (A0 l2 q)
 have aa:=B7 q ((a 1).trans rfl)
 have S:=B7 q ((a 2).trans rfl)
 have T:=B7 s l
 have ab:=B7 (A0 l5 l6) m
 have W:=B7 l6 r
 refine ⟨_,_,_,by rw [D4];exact B7 (R1 k4 _) aa,?_⟩
 refine (fnk func198) ?_
 refine Pc ?_
 intro pp np
 refine ⟨_,rfl,_,rfl,?_⟩
 have u:=Cf.ne np
 rw [show (Cf g6 b (sho 0)).put pp _=_ from Cf.comm u]
 have l7:=Heap.le_put (.cells #[.slice (some i) 1 dc] 59) (Cf.none np)
 have k5:=X9 (o:=.cells #[.slice (some i) 1 dc] 59) k4 u
 refine A8m (l0:=0) (p:=⟨pp,0,none⟩) (D:=some i) (dc:=dc) (fun k=>if k=0 then sho 0 else bso 2) k5 (C4 _ _ _ _ _ _) (SlV.mono (A0 c l7) sd) ?_ ?_
 ·intro k g7 A7 hk l8 d s7
  have F:=A0 l7 l8
  have x:=A0 F (R1 (e:=9) d ((if k=0 then sho 0 else bso 2).map tI))
  obtain ⟨a7,rfl,c7⟩:=Jf s7
  refine ⟨_,_,_,_,rfl,_,B7 x T,a7,rfl,oo,oo,_,B7 (R1 d _) c7,?_⟩
  refine C8 (fun e=>?_) (fun e=>?_)
  ·obtain rfl:k=0:=oo
   refine ⟨_,B7 x ab,_,_,_,by rw [D4];exact B7 x S,_,B7 x W,_,B7 x n,?_⟩
   show aR _ 129 _ _ _
   exact A1y (gl.mono (A0 c F)) d (B7 (A0 c F) e0) (B7 (A0 c F) e1) ⟨rfl,rfl⟩
  ·have X:k≠0:=fun e2=>e (by subst e2;rfl)
   show Cf _ _ (if k=0 then _ else _)=Cf _ _ (if k+1=0 then _ else _)
   rw [iN X,iN oo]
 ·intro g7 l8 d
  exact hK g7 (A0 c (A0 l7 l8)) d
end
