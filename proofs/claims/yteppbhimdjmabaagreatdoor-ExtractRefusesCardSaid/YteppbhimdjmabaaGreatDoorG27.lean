/- A part. -/
import Derived.Test.YteppbhimdjmabaaGreatDoorG26
open Go.Proofs.Tryz
set_option linter.all false
open _root_.Go.Addr renaming add->aH
open Bool renaming and_eq_true->cC
open _root_.Go.Builtin renaming append_->bJ
open _root_.ByteArray renaming toList->bZ
open Classical renaming byContradiction->bY
open _root_.Go.Instr renaming buildSlice->aX,storeAt->aZ
open Int renaming toNat_natCast->aI,tdiv_eq_ediv_of_nonneg->bX,natCast_mul->cH,tdiv->cX
open List renaming getElem?_cons_zero->aJ,range->aL,getElem?_cons_succ->aM,replicate->aU,getElem?_eq_getElem->aV,range_succ->aY,not_mem_nil->bH,map_append->bI,mem_cons->bM,sum_append->bO,length_replicate->cI,map_congr_left->cK,length_flatMap->cL,append_assoc->cN,all_eq_true->cO,length_set->cR,length_map->cT,mem_range->cW
open List.cons renaming injEq->aQ
open Nat renaming le_refl->aC,mul_le_mul->aK,mul_le_mul_right->aO,div_lt_of_lt_mul->bC,zero_mul->bF,le_trans->bG,pow_le_pow_right->bN,mul_comm->bU,zero_add->cF,one_mul->cQ,mod_lt->cV
open Rat renaming mul_inv_cancel->bK,mul_comm->cD,div_def->cJ,mul_zero->cM,divInt->cU,zero_add->cZ,add_zero->dB
open _root_.Go.Value renaming cells->cP
open _root_.Go.Value.int renaming injEq->aS
open _root_.Go.Value.slice renaming injEq->aR
open _root_ renaming Nat->J,Int->Z,Rat->Y,List->dC
open _root_.Go renaming Addr->aF,Value->aT,TypeId->aW,Program->bL
open _root_.Go.Proofs.YteppbhimdjmabaaGreatDoor renaming Heap->aE,FCall->aN,RowV->aP,SliceT->cY
namespace Go.Proofs.YteppbhimdjmabaaGreatDoor
set_option maxRecDepth 20000
open Go
def RowsS(h:aE)(A:Option aF)(n:J)(wl:J->J)(f:J->J->dC UInt8):Prop:=∃hd:dC HV,SlF h A hd/\hd.length=n/\∀i,i<n->∃s,hd[i]? = some s/\s.n=wl i/\aP SSr h s.A (wl i) (f i)
def RowsS.mono{h h':aE}{A:Option aF}{n:J}{wl:J->J}{f:J->J->dC UInt8}(l:h.le h')(r:RowsS h A n wl f):RowsS h' A n wl f:=by obtain⟨a,s,e,r⟩:=r;refine⟨a,s.mono l,e,fun i c=>?_⟩;obtain⟨s,d,b,r⟩:=r i c;exact⟨s,d,b,r.mono F1 l⟩
def RowsS.at{h:aE}{A:Option aF}{n:J}{wl:J->J}{f:J->J->dC UInt8}(r:RowsS h A n wl f){i:J}(hi:i<n):∃(a:aF) (s:HV),A=some a/\s.n=wl i/\h.cell? (aH a (i*1))=some (.slice s.A s.n s.c)/\aP SSr h s.A (wl i) (f i):=by obtain⟨d,s,e,r⟩:=r;obtain⟨u,b,l,r⟩:=r i hi;obtain⟨a,g,k⟩:=SlF.at dc s (i:=i) o;have j:d[i]=u:=by{rw[aV o]at b;exact Option.some.inj b};have:=k 0 _ (by rw[j];rfl);rw[Ju]at this;exact⟨a,u,g,l,this,r⟩
section
variable {h:aE} {K:VP} {A:Option aF} {n cap N:J} {r c:Z} {la:J->dC UInt8} {wl:J->J} {f:J->J->dC UInt8}
end
structure Vm (n:J) (ls:J->dC UInt8):Prop where
 u:Uok n ls
 two:2<=n
 one:ls (n-1)=[49]
 cop:∀ w D,UvR (fun i=>rv (ls i)) n w D->Cop w
def Vcd(n k:J)(lt:J->dC UInt8):Prop:=Uok k lt/\k<n
def Vok(n:J)(ls:J->dC UInt8)(m:J)(wl:J->J)(cs:J->J->dC UInt8)(k:J)(ws:J->dC UInt8):Prop:=Vm n ls/\(∀i,i<m->Vcd n (wl i) (cs i))/\Vcd n k ws
structure XtS (h:aE) (A1:Option aF) (n:J) (ls:J->dC UInt8) (A2:Option aF) (m:J) (wl:J->J) (cs:J->J->dC UInt8) (A3:Option aF) (k:J) (ws:J->dC UInt8):Prop where
 r1:aP SSr h A1 n ls
 r2:RowsS h A2 m wl cs
 r3:aP SSr h A3 k ws
 n1:n<=6
 n2:m<=3
 n3:k<=6
 w6:∀ i,i<m->wl i<=6
 l1:∀ i,i<n->(ls i).length<=12
 l2:∀ i,i<m->∀ j,j<wl i->(cs i j).length<=12
 l3:∀ i,i<k->(ws i).length<=12
section
variable {h h':aE} {K:VP} {A0 A1 A2 A3:Option aF} {n0 c0 n c1 m c2 k c3:J} {ls ws:J->dC UInt8} {wl:J->J} {cs:J->J->dC UInt8}
def XtS.mono(x:XtS h A1 n ls A2 m wl cs A3 k ws)(l:h.le h'):XtS h' A1 n ls A2 m wl cs A3 k ws:=⟨x.r1.mono F1 l,x.r2.mono l,x.r3.mono F1 l,x.n1,x.n2,x.n3,x.w6,x.l1,x.l2,x.l3⟩
def XtS.hs(x:XtS h A1 n ls A2 m wl cs A3 k ws):∀i,i<n->Sz 48 (rv (ls i)):=fun i a=>C04 (k:=12) (x.l1 i a) o
def XtS.hl(x:XtS h A1 n ls A2 m wl cs A3 k ws):∀i,i<n->(ls i).length<=140737488351232:=fun i a=>by have:=x.l1 i a;omega
def Tc(gl:Gl h)(x:XtS h A1 n ls A2 m wl cs A3 k ws)(hK:∀b h',h.le h'->(b=true↔Vok n ls m wl cs k ws)->K (.bool b) h'): aN prog 19 #[.agg #[.slice A0 n0 c0,.slice A1 n c1,.slice A2 m c2,.slice A3 k c3]] h K:=by refine(fnk func19 [(11,[58],[],[I 0])] (own:=[1])) ?_;have no:∀{h'},h.le h'->¬Vok n ls m wl cs k ws->K (.bool false) h':=fun {h'} l nv=>hK false h' l ⟨fun e=>absurd e dc,fun v=>absurd v nv⟩;have hn:=x.n1;have hm:=x.n2;refine Co gl x.r1 o x.hl (fun u h1 z=>⟨_,rfl,?_⟩) (fun u h1 z=>⟨_,rfl,?_⟩);{refine Bq (gl.mono z) (x.mono z).r1 o x.hl (fun _ h2 Q=>⟨_,rfl,Gq ?_⟩) (fun p=>absurd u p);have f:=B6 z Q;refine B9 (fun lt=>no f fun v=>by have:=v.1.two;omega) (fun ge=>B9 (fun gt=>o) (fun _=>?_));have y:2<=n:=o;obtain⟨a,R,hc⟩:=(x.mono f).r1.sat (i:=n-1) o;rw[show(n:Z)-1=((n-1:J):Z)from o];refine⟨a,R,o,o,_,hc,?_⟩;have eb:(bZ (bs (ls (n-1)))==bZ ({data:=#[49] }:ByteArray))=decide (ls (n-1)=[49]):=Ib _ [49];rw[eb];refine Br.not (B9 (fun O=>?_) (fun O=>no f fun v=>O v.1.one));refine A0f (gl.mono f) (x.mono f).r1 y hn x.hl u x.hs fun w D b h3 uv bw bD ow=>⟨_,_,_,_,rfl,D8 (fun e=>absurd rfl e) (fun _=>?_)⟩;have r:=B6 f ow.le;refine A9f (gl.mono r) (x.mono r).r1 (ow.vis F1) y hn x.hl u x.hs uv bw bD fun G b2 h4 B nG G0 lG S cop=>⟨_,_,_,_,rfl,D8 (fun e=>absurd rfl e) (fun _=>?_)⟩;have C:=B6 r B.le;have mz:∀i,Sz 930000 (mQ G i):=fun i=>N4 (Wj nG G0) (S i) (S _);refine Co (gl.mono C) (B.vis F1) o (fun i _=>by have:=Oa (mz i);omega) (fun _ h5 l5=>⟨_,rfl,?_⟩) (fun p=>absurd (B1m fun _=>C1b nG G0) p);have F:=B6 C l5;refine D8 (fun ne=>no F fun v=>ne (by have:=cop.2 (v.1.cop w D uv);omega)) (fun eG=>?_);have vm:Vm n ls:=⟨u,y,O,fun w' D' N=>by rw[(N.uniq uv).1];grind⟩;refine⟨fun L hp=>∃i:J,i<=m/\L=[I (i:Z)]/\h5.le hp/\∀j,j<i->Vcd n (wl j) (cs j),fun L _=>m-(iAt L 0).toNat,⟨0,o,rfl,B8 _,fun j A=>o⟩,?_⟩;rintro t hp ⟨i,hi,eL,V,A⟩;obtain rfl:t=(i:Z):=gz0;have c:=B6 F V;refine B9 (fun ad=>?_) (fun ac=>?_);{have g:i<m:=o;obtain⟨a,s,R,es,ec,X⟩:=(x.mono c).r2.at g;have w6:=x.w6 i g;have E:∀j,j<wl i->(cs i j).length<=140737488351232:=fun j A=>by{have:=x.l2 i g j A;omega};refine⟨a,R,o,o,_,_,_,ec,?_⟩;rw[es];refine Bq (gl.mono c) X o E (fun ui M q=>⟨_,rfl,Gq ?_⟩) (fun p M q=>⟨_,rfl,no (B6 c q) fun v=>p (v.2.1 i g).1⟩);have d:=B6 c q;refine Co (gl.mono d) (X.mono F1 q) o E (fun _ W H=>⟨_,rfl,?_⟩) (fun p=>absurd ui p);refine B9 (fun ge=>no (B6 d H) fun v=>by have:=(v.2.1 i g).2;omega) (fun aa=>?_);rw[wiS i o];refine⟨⟨i+1,o,rfl,B6 V (B6 q H),fun j ae=>?_⟩,by simp only[U4];omega⟩;by_cases e:j=i;{subst e;exact⟨ui,o⟩};grind};·obtain rfl:i=m:=o;have k6:=x.n3;have E:∀j,j<k->(ws j).length<=140737488351232:=fun j A=>by{have:=x.l3 j A;omega};refine Bq (gl.mono c) (x.mono c).r3 o E (fun T M q=>⟨_,rfl,?_⟩) (fun p M q=>⟨_,rfl,no (B6 c q) fun v=>p v.2.2.1⟩);have d:=B6 c q;refine Co (gl.mono d) (x.mono d).r3 o E (fun _ W H=>⟨_,rfl,?_⟩) (fun p=>absurd T p);refine hK _ W (B6 d H) ?_;rw[decide_eq_true_iff];exact⟨fun lt=>⟨vm,A,T,o⟩,fun v=>by have:=v.2.2.2;omega⟩};·refine Bq (gl.mono z) (x.mono z).r1 o x.hl (fun u'=>absurd u' u) (fun _ h2 Q=>⟨_,rfl,?_⟩);exact no (B6 z Q) fun v=>u v.1.u
def A79{K:VP}{N i:J}(gl:Gl h)(r:aP SSr h A1 n ls)(hn:n<=6)(hl:∀i,i<n->(ls i).length<=140737488351232)(hs:∀i,i<n->Sz 48 (rv (ls i)))(v:Vm n ls)(rt:∀w D,UvR (fun i=>rv (ls i)) n w D->RtN w N)(hN:N<=100)(hi:i<N) (hK:∀A n c s t h',h.le h'->K (.tuple #[.agg #[.slice A n c,.string s,.string t],I 0]) h'):aN prog 21 #[.slice A1 n c1,I (i:Z)] h K:=by refine(fnk func21 (own:=[4,7])) ?_;have G:=v.two;refine Dj (m:=48) gl r o hl v.u hs o ?_;intro w D z A2 n2 c2 h1 y wv hc iz uv M _;have X:=wv.1;have e2:=uv.len;have V:w≠[]:=gz0;refine⟨_,_,_,_,_,_,_,_,rfl,Gq (D4 (fun e=>o) (fun _=>?_))⟩;have l:WB 337 w:=M.mono o;refine Au (gl.mono y).tz wv uv.nz V o hc l o ?_;intro S A3 g c3 R E F T f bS;obtain⟨k,B,p⟩:=f.same uv.nz (v.cop w D uv);have s2:S.length=w.length:=by{rw[p];simp[J8]};have e4:=F.1;refine⟨_,_,_,rfl,?_⟩;refine Sk (gl.mono (B6 y E)) F f.nz f.ne o (B21 B (p▸l)) o fun b h3 C=>⟨_,_,_,rfl,?_⟩;obtain rfl:g=n:=o;have j:=B6 (B6 y E) C.le;have k1:=F5 B;have eq:∀i,i<g->mQ S i=rv (ls i):=fun i hi=>by{have a:=uv.eq i hi;have b:=uv.eq (g-1) o;have X:rv (ls (g-1))=1:=by{rw[v.one,show([49]:dC UInt8)=E7 1 by decide +kernel,F3]};rw[p,Bh,Rat.intCast_mul]at a b;have l0:=F5 (Wj f.nz f.ne);have m1:=N7 (z:=cf S i) (Wj f.nz f.ne);have e5:cf S (g-1)=lc S:=by{unfold lc;rw[e4]};have:(k:Y)*(lc S:Y)*mQ S i=(k:Y)*(lc S:Y)*rv (ls i):=by{unfold mQ;grind};grind};have O:∀i,i<g->E7 (mQ S i)=ls i:=fun i hi=>by{obtain⟨q,H⟩:=v.u.1 i hi;rw[eq i hi,H,F3]};refine Ya (N:=N) (gl.mono j) ((C.vis F1).congr O) G hn hl v.u hs v.cop rt hN fun A4 c4 L Q iv=>⟨_,_,_,_,rfl,B9 (fun z=>o) (fun _=>B9 (fun z=>o) (fun _=>?_))⟩;obtain⟨xs,W,hx⟩:=iv;obtain⟨a,ea,d⟩:=SlF.at dc W (i:=i) o;refine⟨a,ea,o,o,_,_,d 0 _ rfl,d 1 _ rfl,hK _ _ _ _ _ L (B6 j Q)⟩
end
section
variable {α β:Type} [E:Enc α] {R:aE->α->β->Prop} {e:aW} {h0 h1 hp:aE} {A:Option aF} {c n:J} {f:J->β}
def Lst(R:aE->α->β->Prop)(e:aW)(h0 hp:aE)(A:Option aF)(c n:J)(f:J->β):Prop:=∃g o,∃xs:dC α,h0.le g/\Sep hp g o/\OwnSl o e A c xs/\xs.length=n/\Row R g xs n f
def Lst.nil:Lst R e h0 h0 none 0 0 f:=⟨h0,Ag,[],B8 _,Sep.refl _,OwnSl.nil,rfl,Row.nil⟩
def Lst.le(l:Lst R e h0 hp A c n f):h0.le hp:=by obtain⟨g,o,xs,a,s,_⟩:=l;exact B6 a s.le
def Lst.weak(w:h1.le h0)(l:Lst R e h0 hp A c n f):Lst R e h1 hp A c n f:=by obtain⟨g,o,xs,a,s,r⟩:=l;exact⟨g,o,xs,B6 w a,s,r⟩
def Lst.row(m:Mon R)(l:Lst R e h0 hp A c n f):aP R hp A n f:=by obtain⟨g,o,xs,b,s,w,a,r⟩:=l;exact⟨xs,w.slF s.ole,a,r.mono m s.le⟩
def Lst.congr{f':J->β}(l:Lst R e h0 hp A c n f)(x:∀i,i<n->f i=f' i):Lst R e h0 hp A c n f':=by obtain⟨g,o,xs,b,s,w,a,r⟩:=l;exact⟨g,o,xs,b,s,w,a,r.congr x⟩
def Lst.cap(l:Lst R e h0 hp A c n f):n<=c:=by obtain⟨g,o,xs,a,s,w,rfl,r⟩:=l;exact w.1
def Lst.call(m:Mon R){P:bL}{F:FuncId}{args:Array aT}{K:VP}(l:Lst R e h0 hp A c n f)(x:∀g,h0.le g->aN P F args g (fun r g'=>g.le g'/\∀h',hp.le h'->Lst R e g' h' A c n f->K r h')):aN P F args hp K:=by obtain⟨g,o,xs,i,s,w,d,r⟩:=l;refine s.call (FCall.mono (x g i) ?_);rintro v g' ⟨a,k⟩ h' b;exact k h' (s.le_le b a) ⟨g',o,xs,B8 _,b,w,d,r.mono m a⟩
def Lst.base(pos:0<E.default.size)(l:Lst R e h0 hp A c n f):∃g,h0.le g/\Lst R e g hp A c n f/\∀i,i<n->∃a w,A=some a/\R g w (f i)/\∀j v,(enc w)[j]? = some v->hp.cell? (aH (aH a (i*E.default.size)) j)=some v:=by obtain⟨g,o,xs,p,s,w,m,r⟩:=l;refine⟨g,p,⟨g,o,xs,B8 _,s,w,m,r⟩,fun i k=>?_⟩;have hl:i<xs.length:=oo;obtain⟨a,b,d⟩:=(w.slF s.ole).at pos hl;exact⟨a,xs[i],b,r.get k hl,d⟩
def Qh{P:bL}{t:aW}{z:aT}{bytes:J}(st:cY P t e z E.default.size bytes){v:aT}{y:α}(hv:v.cells=(enc y).toArray)(hsz:E.default.size<=1000)(hR:R h0 y (f 0)){K:VP} (x:∀b h',h0.le h'->Lst R e h0 h' (some ⟨b,0,none⟩) 1 1 f->K (.slice (some ⟨b,0,none⟩) 1 1) h'):wpH P (aX t 1 #[(0,v)]) K h0:=by have c:(enc y).length=E.default.size:=E.default.len y;refine Ah st (vs:=[v]) (fun u g=>gz0) rfl gz0 rfl fun b a=>x b _ (Heap.le_put _ a) ⟨h0,_,[y],B8 _,S3 a,⟨aC _,.inr ⟨b,enc y,rfl,?_,o,?_⟩⟩,rfl,fun i d=>⟨y,?_,?_⟩⟩;{rw[C3];simp[hv]};{rw[List.length_singleton,cQ,List.take_of_length_le o];simp};{grind};grind
def Lst.push(m:Mon R){P:bL}{t ty:aW}{z:aT}{bytes k:J}(st:cY P t e z E.default.size bytes)(l:Lst R e h0 hp A c n f)(hk:k=n){v:aT}{y:α}(hv:v.cells=(enc y).toArray)(hR:R h0 y (f n))(hsz:E.default.size<=1000/\bytes<=1000) (hb:n<=1000000) {K:Option aF->J->J->aE->Prop} (x:∀A' c' h',Lst R e h0 h' A' c' (n+1) f->K A' (n+1) c' h'): wpH P (aX t 1 #[(0,v)]) (fun v' hp=>∃(B:Option aF) (m d:J),v'= .slice B m d/\wpH P (bJ #[t,t] ty #[.slice A k c,.slice B m d]) (fun v1 hp1=>∃(A':Option aF) (n' c':J),v1= .slice A' n' c'/\K A' n' c' hp1) hp) hp:=by subst hk;obtain⟨g,o,xs,j,s,w,b,r⟩:=l;refine V8 (ty:=ty) st s w b.symm (y:=y) hv hsz.1 (by rw[b];exact bG (aK (show 2*(k+1)+192<=3000000 from oo) hsz.2) dc) oo ?_;intro A' c' h' i u a p q _;rw[b];refine x A' c' h' ⟨i,u,_,B6 j a,p,q,gz0,?_⟩;have C:=Row.push (R:=R) (g:=i) (xs:=xs) (f:=f) (by rw[b];exact r.mono m a) (w:=y) (by rw[b];exact m _ _ _ _ (B6 j a) hR);grind
def Lst.pushG(m:Mon R){P:bL}{t ty:aW}{z:aT}{bytes k:J}(st:cY P t e z E.default.size bytes)(l:Lst R e h0 hp A c n f)(hk:k=n){v:aT}{y:α}(hv:v.cells=(enc y).toArray)(hR:R h0 y (f n))(hsz:E.default.size<=1000/\bytes<=1000) (hb:n<=1000000) {K:Option aF->J->J->aE->Prop} (x:∀A' c' h',Lst R e h0 h' A' c' (n+1) f->K A' (n+1) c' h'): wpH P (aX t 1 #[(0,v)]) (fun v' hp'=>∃(B:Option aF) (m d:J),v'= .slice B m d/\Heap.le hp hp'/\wpH P (bJ #[t,t] ty #[.slice A k c,.slice B m d]) (fun v1 hp1=>∃(A':Option aF) (n' c':J),v1= .slice A' n' c'/\K A' n' c' hp1) hp') hp:=by subst hk;obtain⟨g,o,xs,j,s,w,b,r⟩:=l;rw[<- b];refine OwnSl.push (ty:=ty) st s w (y:=y) hv hsz.1 (by rw[b];exact bG (aK (show 2*(k+1)+192<=3000000 from oo) hsz.2) dc) oo (K1:=fun q=>Heap.le hp q) (fun _ l=>l) ?_;intro A' c' h' i C a p u _;rw[b];refine x A' c' h' ⟨i,C,_,B6 j a,p,u,gz0,?_⟩;have D:=Row.push (R:=R) (g:=i) (xs:=xs) (f:=f) (by rw[b];exact r.mono m a) (w:=y) (by rw[b];exact m _ _ _ _ (B6 j a) hR);grind
end
section
variable {α β α2 β2:Type} [E:Enc α] [E2:Enc α2] {R:aE->α->β->Prop} {e e2:aW} {h0 hp:aE} {A A2:Option aF} {c n c2 n2:J} {f:J->β} {R2:aE->α2->β2->Prop} {f2:J->β2}
def Lst2(R:aE->α->β->Prop)(e:aW)(R2:aE->α2->β2->Prop)(e2:aW)(h0 hp:aE)(A:Option aF)(c n:J)(f:J->β)(A2:Option aF)(c2 n2:J)(f2:J->β2):Prop:=∃g o,∃xs:dC α,∃ys:dC α2,h0.le g/\Sep hp g o/\OwnSl o e A c xs/\OwnSl o e2 A2 c2 ys/\(∀b,A=some ⟨b,0,none⟩->A2≠some ⟨b,0,none⟩)/\xs.length=n/\ys.length=n2/\Row R g xs n f/\Row R2 g ys n2 f2
def Lst2.nil:Lst2 R e R2 e2 h0 h0 none 0 0 f none 0 0 f2:=⟨h0,Ag,[],[],B8 _,Sep.refl _,OwnSl.nil,OwnSl.nil,fun _ x=>by(cases x),rfl,rfl,Row.nil,Row.nil⟩
def Lst2.swap(l:Lst2 R e R2 e2 h0 hp A c n f A2 c2 n2 f2):Lst2 R2 e2 R e h0 hp A2 c2 n2 f2 A c n f:=by obtain⟨g,o,xs,i,p,s,w,k,j,m,a,r,d⟩:=l;exact⟨g,o,i,xs,p,s,k,w,fun b x y=>j b y x,a,m,d,r⟩
def Lst2.le(l:Lst2 R e R2 e2 h0 hp A c n f A2 c2 n2 f2):h0.le hp:=by obtain⟨g,o,xs,b,a,s,_⟩:=l;exact B6 a s.le
def Lst2.row(m:Mon R)(l:Lst2 R e R2 e2 h0 hp A c n f A2 c2 n2 f2):aP R hp A n f:=by obtain⟨g,o,xs,i,p,s,w,k,j,b,a,r,d⟩:=l;exact⟨xs,w.slF s.ole,b,r.mono m s.le⟩
def Lst2.pushG(m:Mon R)(m2:Mon R2){P:bL}{t ty:aW}{z:aT}{bytes k:J}(st:cY P t e z E.default.size bytes)(l:Lst2 R e R2 e2 h0 hp A c n f A2 c2 n2 f2)(hk:k=n){v:aT}{y:α}(hv:v.cells=(enc y).toArray)(hR:R h0 y (f n))(hsz:E.default.size<=1000/\bytes<=1000) (hb:n<=1000000) {K:Option aF->J->J->aE->Prop} (x:∀A' c' h',Lst2 R e R2 e2 h0 h' A' c' (n+1) f A2 c2 n2 f2->K A' (n+1) c' h'): wpH P (aX t 1 #[(0,v)]) (fun v' hp'=>∃(B:Option aF) (m d:J),v'= .slice B m d/\Heap.le hp hp'/\wpH P (bJ #[t,t] ty #[.slice A k c,.slice B m d]) (fun v1 hp1=>∃(A':Option aF) (n' c':J),v1= .slice A' n' c'/\K A' n' c' hp1) hp') hp:=by subst hk;obtain⟨g,o,xs,V,D,s,w,L,W,i,C,r,T⟩:=l;rw[<- i];refine OwnSl.push (ty:=ty) st s w (y:=y) hv hsz.1 (by rw[i];exact bG (aK (show 2*(k+1)+192<=3000000 from oo) hsz.2) dc) oo (K1:=fun Q=>Heap.le hp Q) (fun _ l=>l) ?_;intro A' c' h' F H a M O N;rw[i];have u:∀b x,A2=some ⟨b,0,none⟩->o b=some x->H b=some x/\A'≠some ⟨b,0,none⟩:=fun b x q p=>N b x p fun j=>W b j q;have G:∀b,A2=some ⟨b,0,none⟩->∃x,o b=some x:=fun b q=>by{rcases L.2 with⟨_,j⟩|⟨X,S,j,q3,_⟩;{grind};grind};refine x A' c' h' ⟨F,H,_,V,B6 D a,M,O,L.keep fun b x q p=>(u b x q p).1,fun b q j=>?_,gz0,C,?_,T.mono m2 a⟩;{grind};have rB:=Row.push (R:=R) (g:=F) (xs:=xs) (f:=f) (by rw[i];exact r.mono m a) (w:=y) (by rw[i];exact m _ _ _ _ (B6 D a) hR);grind
end
section
variable {α β α2 β2:Type} [E:Enc α] [E2:Enc α2] {R:aE->α->β->Prop} {e e2:aW} {h0 hp:aE} {A A2:Option aF} {c n c2 n2:J} {f:J->β} {R2:aE->α2->β2->Prop} {f2:J->β2} {P:bL}
def Lst2.of(l:Lst R2 e2 h0 hp A2 c2 n2 f2):Lst2 R e R2 e2 h0 hp none 0 0 f A2 c2 n2 f2:=by obtain⟨g,o,xs,b,s,w,a,r⟩:=l;exact⟨g,o,[],xs,b,s,OwnSl.nil,w,fun _ x=>by(cases x),rfl,a,Row.nil,r⟩
def Lst2.weak{h1:aE}(w:h1.le h0)(l:Lst2 R e R2 e2 h0 hp A c n f A2 c2 n2 f2):Lst2 R e R2 e2 h1 hp A c n f A2 c2 n2 f2:=by obtain⟨g,o,xs,b,a,r⟩:=l;exact⟨g,o,xs,b,B6 w a,r⟩
def Lst2.congr{f':J->β}(l:Lst2 R e R2 e2 h0 hp A c n f A2 c2 n2 f2)(x:∀i,i<n->f i=f' i):Lst2 R e R2 e2 h0 hp A c n f' A2 c2 n2 f2:=by obtain⟨g,o,xs,d,p,s,w,k,j,m,a,r,b⟩:=l;exact⟨g,o,xs,d,p,s,w,k,j,m,a,r.congr x,b⟩
def Lst2.base(pos:0<E.default.size)(l:Lst2 R e R2 e2 h0 hp A c n f A2 c2 n2 f2):∃g,h0.le g/\Lst2 R e R2 e2 g hp A c n f A2 c2 n2 f2/\∀i,i<n->∃a w,A=some a/\R g w (f i)/\∀j v,(enc w)[j]? = some v->hp.cell? (aH (aH a (i*E.default.size)) j)=some v:=by obtain⟨g,o,xs,k,z,s,w,p,q,y,b,r,d⟩:=l;refine⟨g,z,⟨g,o,xs,k,B8 _,s,w,p,q,y,b,r,d⟩,fun i u=>?_⟩;have hl:i<xs.length:=oo;obtain⟨a,m,t⟩:=(w.slF s.ole).at pos hl;exact⟨a,xs[i],m,r.get u hl,t⟩
def Lst2.call(m:Mon R)(m2:Mon R2){F:FuncId}{args:Array aT}{K:VP}(l:Lst2 R e R2 e2 h0 hp A c n f A2 c2 n2 f2)(x:∀g,h0.le g->aN P F args g (fun r g'=>g.le g'/\∀h',hp.le h'->Lst2 R e R2 e2 g' h' A c n f A2 c2 n2 f2->K r h')):aN P F args hp K:=by obtain⟨g,o,xs,j,u,s,w,p,q,t,b,r,i⟩:=l;refine s.call (FCall.mono (x g u) ?_);rintro v g' ⟨a,k⟩ h' d;exact k h' (s.le_le d a) ⟨g',o,xs,j,B8 _,d,w,p,q,t,b,r.mono m a,i.mono m2 a⟩
end
section
variable {α β:Type} [E:Enc α] {R:aE->α->β->Prop} {h:aE} {B:Option aF} {n d:J} {f:J->β}
def C5m(m:Mon R){P:bL}{t e:aW}{z:aT}{bytes:J}(st:cY P t e z E.default.size bytes)(r:aP R h B n f)(hsz:bytes<=1000)(hn:n<=1000000){K:Option aF->J->J->aE->Prop} (x0:n=0->∀A' c' h',h.le h'->K A' 0 c' h') (x:1<=n->∀b c' h',n<=c'->Lst R e h h' (some ⟨b,0,none⟩) c' n f->K (some ⟨b,0,none⟩) n c' h'): wpH P (aX t 0 #[]) (fun v hp=>∃(A:Option aF) (k c:J),v= .slice A k c/\wpH P (bJ #[t,t] t #[.slice A k c,.slice B n d]) (fun v1 hp1=>∃(A':Option aF) (n' c':J),v1= .slice A' n' c'/\K A' n' c' hp1) hp) h:=by obtain⟨xs,L,w,G⟩:=r;subst w;refine Fd st ?_;intro b F;have s:=Heap.le_put (h:=h) (.cells #[] e) F;have q:=aK (show 2*(([]:dC α).length+xs.length)+192<=3000000 by simp;omega) hsz;refine⟨_,_,_,rfl,R9 st (PrivF.nil _ e (some ⟨b,0,none⟩)) (ys:=xs) rfl (L.mono s) o (by simp;omega) ?_⟩;intro A' c' h' M y p;rw[List.nil_append]at p ⊢;have l:=B6 s y;refine⟨_,_,_,rfl,?_⟩;have C:=B6 l p.le;by_cases a:xs.length=0;{rw[a];exact x0 a _ _ _ C};·obtain⟨N,j,⟨O,_⟩|⟨u,i,rfl,H,rfl,D,g⟩⟩:=p;{omega};·exact x o u c' _ j ⟨M,_,xs,l,S3 H,⟨j,.inr ⟨u,i,rfl,C3 _ _ _,D,g⟩⟩,rfl,G.mono m l⟩
end
section
variable {h h':aE} {K:VP} {A0 A1 A2 A3:Option aF} {n0 c0 n c1 m c2 k c3:J} {ls ws:J->dC UInt8} {wl:J->J} {cs:J->J->dC UInt8}
def A6c(r:aP SSr h A1 n ls)(hn:n<=1000000)(hK:∀A' n' c' h',h.le h'->K (.slice A' n' c') h'):aN prog 22 #[.slice A1 n c1] h K:=by refine(fnk func22) ?_;refine Br.of (fun _=>hK _ _ _ _ (B8 _)) (fun _=>?_);exact C5m F1 G2 r dc hn (fun _ A' c' h' l=>hK _ _ _ _ l) (fun _ b c' h' _ L=>hK _ _ _ _ L.le)
abbrev Any{α:Type}:aE->α->Unit->Prop:=fun _ _ _=>True
def Em{α:Type}:Mon (Any (α:=α)):=fun _ _ _ _ _ _=>trivial
structure FPv where
 A:Option aF
 n:J
 c:J
 s:ByteArray
 t:ByteArray
 A2:Option aF
 n2:J
 c2:J
instance:Enc FPv:=⟨⟨fun w=>[.slice w.A w.n w.c,.string w.s,.string w.t,.slice w.A2 w.n2 w.c2],4,fun _=>rfl,fun w v hv=>by simp at hv;rcases hv with rfl|rfl|rfl|rfl<;>rfl⟩⟩
abbrev PtL(h hp:aE)(A:Option aF)(c n:J):Prop:=Lst (Any (α:=FPv)) 70 h hp A c n (fun _=>())
abbrev C8p(h hp:aE)(B:Option aF)(d k:J)(A:Option aF)(c n:J):Prop:=Lst2 (Any (α:=HV)) 22 (Any (α:=FPv)) 70 h hp B d k (fun _=>()) A c n (fun _=>())
def Pp(gl:Gl h)(x:XtS h A1 n ls A2 m wl cs A3 k ws)(hK0:¬Vok n ls m wl cs k ws->∀h',h.le h'->K (.tuple #[.slice none 0 0,I 1]) h')
 (hK1:Vok n ls m wl cs k ws->∀N A c h',h.le h'->(∀w D,UvR (fun i=>rv (ls i)) n w D->RtN w (N:J))->(∀w D,UvR (fun i=>rv (ls i)) n w D->RtS 337 w)->N<=100->K (.tuple #[.slice A N c,I 0]) h'):
 aN prog 7 #[.agg #[.slice A0 n0 c0,.slice A1 n c1,.slice A2 m c2,.slice A3 k c3]] h K:=by
 refine(fnk func7 [(8,[6,26],[],[.slice none 0 0,I 0]),(15,[44],[(10,4)],[I 0,.slice none 0 0,.string ⟨#[]⟩,.string ⟨#[]⟩,.slice none 0 0])] (own:=[1,8,10]) (wr:=[1000000000])) ?_;refine Tc gl x fun b h1 C O=>⟨_,rfl,?_⟩
 cases b with
 |false=>exact hK0 (fun v=>absurd (O.2 v) dc) _ C
 |true=>
 have v:=O.1 rfl;have X:=x.n1;have hm:=x.n2;refine Gq ?_;refine A3j (gl.mono C) (x.mono C).r1 v.1.two X x.hl v.1.u x.hs v.1.cop fun N h2 l2 rt M hN=>⟨_,_,rfl,D8 (fun e=>absurd rfl e) (fun _=>?_)⟩;have f:=B6 C l2;refine⟨fun L T=>∃(i:J) (A:Option aF) (c:J),i<=N/\L=[.slice A i c,I (i:Z)]/\PtL h2 T A c i,fun L _=>N-(iAt L 1).toNat,⟨0,_,_,o,rfl,Lst.nil⟩,?_⟩;rintro Q l W t T ⟨i,A,c,hi,S,L⟩;simp only[aQ,aR,aS,true_and,and_true]at S;obtain⟨⟨rfl,rfl,rfl⟩,rfl⟩:=S;refine B9 (fun ac=>?_) (fun aa=>?_)
 ·refine L.call Em fun g F=>A79 (N:=N) (gl.mono (B6 f F)) (x.mono (B6 f F)).r1 X x.hl x.hs v.1 rt hN o fun Aq nq cq sq tq g' p=>⟨p,fun h3 l3 L3=>⟨_,_,_,_,_,_,rfl,D8 (fun e=>absurd rfl e) (fun _=>?_)⟩⟩;have z:=B6 F p;refine⟨fun V G=>∃(j:J) (B:Option aF) (d:J),j<=m/\V=[I (j:Z),.slice Aq nq cq,.string sq,.string tq,.slice B j d]/\C8p g' G B d j Q W l,fun V _=>m-(iAt V 0).toNat,⟨0,_,_,o,rfl,Lst2.of L3⟩,?_⟩;rintro tj q1 q2 q3 q4 q5 q6 q q8 G ⟨j,B,d,hj,eV,L4⟩;simp only[aQ,aR,aS,Value.string.injEq,true_and,and_true]at eV;obtain⟨rfl,⟨rfl,rfl,rfl⟩,rfl,rfl,rfl,rfl,rfl⟩:=eV;refine B9 (fun ae=>?_) (fun ad=>?_)
  ·obtain⟨a,s,rfl,es,ec,rs⟩:=(x.mono (B6 f z)).r2.at (show q<m from o);refine⟨a,rfl,o,o,_,_,_,C2 L4.le ec,?_⟩;rw[es];have w6:=x.w6 q o;refine L4.call Em Em fun g5 r=>A6c (rs.mono F1 r) o fun A5 n5 c5 g6 l6=>⟨l6,fun h6 H L6=>⟨_,_,_,rfl,H,?_⟩⟩;refine Lst2.pushG Em Em B1u L6 rfl (y:=(⟨A5,n5,c5⟩:HV)) rfl trivial dc o fun A7 c7 h7 L7=>?_;rw[wiS q o];exact⟨⟨q+1,_,_,o,rfl,L7.weak (B6 r l6)⟩,by simp only[U4];omega⟩
  ·obtain⟨R,o8,xs,ys,E,s8,w8,w9,_,_,hy,_,_⟩:=L4;have L8:PtL R G Q W l:=⟨R,o8,ys,B8 _,s8,w9,hy,fun i hi=>⟨ys[i]'o,by rw[aV],trivial⟩⟩;refine Lst.push Em C8b L8 rfl (y:=(⟨q1,q2,q3,q4,q5,q6,q,q8⟩:FPv)) rfl trivial dc o fun A9 c9 h9 L9=>?_;rw[wiS l o];refine⟨⟨l+1,_,_,o,rfl,L9.weak (B6 z E)⟩,?_⟩;show N-((l+1:J):Z).toNat<N-((l:J):Z).toNat;omega
 ·obtain rfl:l=N:=o;exact hK1 v l _ _ _ (B6 f L.le) rt M hN
end
def Q9(n k:Z):J->Z
 |0=>1
 |i+1=>cX (Q9 n k i*(n-k+(i+1))) (i+1)
def Nk(n k:Z):Z:=if n<k then 0 else Q9 n k k.toNat
def Yn:∀n:Fin 31,∀k:Fin 7,∀i:Fin 7,(k:J)<=n->(i:J)<=k->0<=Q9 (n:J) (k:J) i/\Q9 (n:J) (k:J) i<=1000000:=by decide +kernel
def Fh{n k:Z}{i:J}(hn0:0<=n)(hn:n<=30)(hk0:0<=k)(hk:k<=6)(hkn:k<=n)(hi:(i:Z)<=k):0<=Q9 n k i/\Q9 n k i<=1000000:=by have:=Yn ⟨n.toNat,o⟩ ⟨k.toNat,o⟩ ⟨i,o⟩ gz0 gz0;grind
def Jg(a b:dC Z):Bool:=a.length==b.length&&W9 a&&W9 b
def A1l{n k:Z}{h:aE}{K:VP}(hn0: -1<=n)(hn:n<=30)(hk0:0<=k)(hk:k<=6)(hK:K (I (Nk n k)) h):aN prog 228 #[I n,I k] h K:=by refine(fnk func228 [(5,[5,6],[],[I 0,I 0])]) ?_;refine B9 (fun b=>?_) (fun b=>?_);{simpa[Nk,b]using hK};·refine⟨fun l e=>∃i:J,l=[I (Q9 n k i),I (i+1)]/\(i:Z)<=k/\e=h,fun l _=>(k+1-iAt l 1).toNat,⟨0,rfl,hk0,rfl⟩,?_⟩;rintro a i y ⟨m,hl,d,rfl⟩;obtain⟨rfl,rfl⟩:a=Q9 n k m/\i=(m:Z)+1:=gz0;have c:=Fh (i:=m) o hn hk0 hk o d;refine B9 (fun q=>B9 (fun z=>o) (fun _=>?_)) (fun q=>?_);{have u:=Fh (i:=m+1) o hn hk0 hk o o;have A:Q9 n k m*(n-k+(m+1))<=1000000*40:=by{have r:0<=n-k+(m+1):=o;have t:n-k+((m:Z)+1)<=40:=o;exact Int.mul_le_mul c.2 t r o};have p:0<=Q9 n k m*(n-k+(m+1)):=Int.mul_nonneg c.1 o;have g:C4 (n-k)=n-k:=C0 o o;have w:C4 (C4 (n-k)+((m:Z)+1))=n-k+(m+1):=by{rw[g,C0 o o]};have j:C4 (Q9 n k m*C4 (C4 (n-k)+((m:Z)+1)))=Q9 n k m*(n-k+(m+1)):=by{rw[w,C0 o o]};have s:C4 (cX (C4 (Q9 n k m*C4 (C4 (n-k)+((m:Z)+1)))) ((m:Z)+1))=Q9 n k (m+1):=by{rw[j];show C4 (Q9 n k (m+1))=_;exact C0 o o};have f:C4 ((m:Z)+1+1)=((m+1:J):Z)+1:=by{rw[C0 o o];omega};rw[s,f];exact⟨⟨m+1,rfl,o,rfl⟩,by simp only[iAt,aM,aJ];omega⟩};·have:m=k.toNat:=o;subst this;simpa[Nk,b]using hK
def A7c:∀{xs:dC Z} {d:Z},0<=Xb xs d->0<=d->d<=24->(∀x∈xs,0<=x)/\Xb xs d=d+xs.sum/\d+xs.sum<=24:=by
 intro xs
 induction xs with
 |nil=>intro d h f e;simp[Xb];exact e
 |cons x xs ih=>
  intro d h f e;rw[Xb]at h ⊢;split at h;·omega
  ·obtain⟨a,b,c⟩:=ih h o o;refine⟨fun y g=>?_,gz0,gz0⟩;grind
def Mj{xs:dC Z}(h:W9 xs=true):xs.length<=6/\(∀x∈xs,0<=x)/\B4g xs=xs.sum/\xs.sum<=24:=by have h:=of_decide_eq_true h;unfold B4g at h ⊢;split at h;{omega};·obtain⟨a,b,c⟩:=A7c h o o;grind
def B8v{l:dC Z}(h:∀x∈l,0<=x){x:Z}(hx:x∈l):x<=l.sum:=by
 induction l with
 |nil=>cases hx
 |cons y l ih=>
  have hs:=Us (l:=l) (fun z a=>h z (by simp[a]));have b:=h y (by simp);grind
def A7t{xs:dC Z}(h:W9 xs=true)(k:J):0<=xs.getD k 0/\xs.getD k 0<=24:=by obtain⟨_,a,_,d⟩:=Mj h;by_cases c:k<xs.length;{have b:xs.getD k 0∈xs:=gz0;have:=B8v a b;grind};grind
def B4m(a b:dC Z):Z:=if Jg a b then C2l a b else 0
def Kp{a b:dC Z}(h:Jg a b=true):a.length=b.length/\W9 a=true/\W9 b=true:=by simp only[Jg,cC,beq_iff_eq]at h;grind
def opL(o:Z->Z->Z)(a b:dC Z):dC Z:=(aL a.length).map fun i=>o (a.getD i 0) (b.getD i 0)
def Rd(o:Z->Z->Z)(a b:dC Z):(opL o a b).length=a.length:=by simp[opL]
def C4s(o:Z->Z->Z)(a b:dC Z){i:J}(hi:i<(opL o a b).length):(opL o a b)[i]=o (a.getD i 0) (b.getD i 0):=by simp[opL]
section
variable {h:aE} {K:VP} {a b:dC Z} {A B:Option aF} {ac bc:J}
def Hw(sa:SlI .i64 h A a)(sb:SlI .i64 h B b)(hK:K (.bool (Jg a b)) h):aN prog 286 #[.slice A a.length ac,.slice B b.length bc] h K:=by refine(fnk func286) ?_;refine D4 (fun d=>?_) (fun d=>?_);{have hl:a.length=b.length:=o;refine Ek sa ⟨_,rfl,?_⟩;refine Br.of (fun c=>Ek sb ⟨_,rfl,?_⟩) (fun c=>?_);{simpa[Jg,hl,c]using hK};·simpa[Jg,hl,c]using hK};·have hl:(a.length==b.length)=false:=gz0;simpa[Jg,hl]using hK
def A4x{a:dC Z}(v:W9 a=true):ExB a:=by obtain⟨d,b,_,e⟩:=Mj v;exact⟨d,fun x c=>⟨b x c,by have:=B8v b c;omega⟩⟩
def Ls(sa:SlI .i64 h A a)(sb:SlI .i64 h B b)(hK:K (I (B4m a b)) h):aN prog 240 #[.slice A a.length ac,.slice B b.length bc] h K:=by refine(fnk func240) ?_;refine Hw sa sb ⟨_,rfl,Br.not (Br.of (fun c=>?_) (fun c=>?_))⟩;{exact Wa (Kp c).1 (A4x (Kp c).2.1) (A4x (Kp c).2.2) sa sb ⟨_,rfl,by simpa[B4m,c]using hK⟩};·simpa[B4m,c]using hK
def Rg(sa:SlI .i64 h A a)(sb:SlI .i64 h B b)(hno:(Jg a b&&W9 (opL (fun x y=>x+y) a b))=false->∀h',h.le h'->K (.tuple #[.slice none 0 0,.bool false]) h')(hyes:(Jg a b&&W9 (opL (fun x y=>x+y) a b))=true->∀nb,h nb=none->K (.tuple #[.slice (some ⟨nb,0,none⟩) (opL (fun x y=>x+y) a b).length (opL (fun x y=>x+y) a b).length,.bool true]) (h.put nb (.cells ((opL (fun x y=>x+y) a b).map I).toArray 3))): aN prog 279 #[.slice A a.length ac,.slice B b.length bc,.func (.func 280) #[] #[]] h K:=by refine(fnk func279 [(5,[20],[],[I 0])]) ?_;refine Hw sa sb ⟨_,rfl,Br.not (Br.of (fun e=>?_) (fun e=>hno (by simp[e]) h (B8 h)))⟩;obtain⟨hl,m,q⟩:=Kp e;have w:=(Mj m).1;refine Wi Oe o o o o ?_;intro nb f;refine⟨_,_,_,rfl,?_⟩;refine⟨fun l h'=>∃k:J,l=[I k]/\k<=a.length/\h'=h.put nb (.cells (Po I (I 0) (opL (fun x y=>x+y) a b) k).toArray 3),fun l _=>a.length-(iAt l 0).toNat,⟨0,rfl,o,?_⟩,?_⟩;{rw[B0m,Rd];congr 2;exact Eh _ _};rintro i C ⟨k,u,D,rfl⟩;obtain rfl:i=(k:Z):=gz0;have c:∀g,h.le (h.put nb g):=fun g=>Heap.le_put g f;refine B9 (fun t=>?_) (fun t=>?_);{refine(sa.mono (c _)).load rfl o o ?_;refine(sb.mono (c _)).load rfl o o ?_;rw[aI];have E:=A7t m k;have F:=A7t q k;refine(fnk func280) ?_;refine⟨_,rfl,_,rfl,o,o,?_⟩;rw[C0 (n:=(k:Z)+1) o o];refine A38 Up (zs:=opL (fun x y=>x+y) a b) (i:=k) (by rw[Rd];omega) ?_ ⟨⟨k+1,by simp,o,rfl⟩,by simp only[iAt,aJ];omega⟩;rw[C4s];exact C0 o o};·have j:k=a.length:=o;subst j;have p:a.length=(opL (fun x y=>x+y) a b).length:=(Rd _ _ _).symm;have hs:SlI .i64 (h.put nb (.cells (Po I (I 0) (opL (fun x y=>x+y) a b) a.length).toArray 3)) (some ⟨nb,0,none⟩) (opL (fun x y=>x+y) a b):=by{rw[p,A4u];exact SlI.new h nb _ _ _};have s:aN prog 292 #[.slice (some ⟨nb,0,none⟩) a.length a.length] (h.put nb (.cells (Po I (I 0) (opL (fun x y=>x+y) a b) a.length).toArray 3)) fun r d=>∃t37:Bool,r= .bool t37/\Br (!t37) (K (.tuple #[.slice none 0 0,.bool false]) d) (K (.tuple #[.slice (some ⟨nb,0,none⟩) a.length a.length,.bool true]) d):=by{rw[p,A4u]at hs ⊢;refine Ek hs ⟨_,rfl,Br.not (Br.of (fun z=>?_) (fun z=>?_))⟩;{grind};grind};exact s
def Wd(sa:SlI .i64 h A a)(sb:SlI .i64 h B b)(hno:(Jg a b&&W9 (opL (fun x y=>x+y) a b))=false->∀h',h.le h'->K (.tuple #[.slice none 0 0,.bool false]) h')(hyes:(Jg a b&&W9 (opL (fun x y=>x+y) a b))=true->∀nb,h nb=none->K (.tuple #[.slice (some ⟨nb,0,none⟩) (opL (fun x y=>x+y) a b).length (opL (fun x y=>x+y) a b).length,.bool true]) (h.put nb (.cells ((opL (fun x y=>x+y) a b).map I).toArray 3))): aN prog 232 #[.slice A a.length ac,.slice B b.length bc] h K:=by refine(fnk func232) ?_;exact Rg sa sb (fun e h' hl=>⟨_,_,_,_,rfl,hno e h' hl⟩) (fun e nb c=>⟨_,_,_,_,rfl,hyes e nb c⟩)
def Zm(sa:SlI .i64 h A a)(sb:SlI .i64 h B b)(hno:(Jg a b&&W9 (opL (fun x y=>x+y) a b))=false->∀h',h.le h'->K (.tuple #[.slice none 0 0,.bool false]) h')(hyes:(Jg a b&&W9 (opL (fun x y=>x+y) a b))=true->∀A' h',h.le h'->SlI .i64 h' A' (opL (fun x y=>x+y) a b)->K (.tuple #[.slice A' (opL (fun x y=>x+y) a b).length (opL (fun x y=>x+y) a b).length,.bool true]) h'): aN prog 232 #[.slice A a.length ac,.slice B b.length bc] h K:=by exact Wd sa sb hno fun e d c=>hyes e _ _ (Heap.le_put _ c) (SlI.new _ _ _ _ _)
end
def Hk(n d:Z):Bool:=decide (0<=n/\n<=6/\0<=d/\d<=24)
def B1a(n d:Z):Z:=if Hk n d then Q9 (n+d) n n.toNat else 0
def A7d{n d:Z}(h:Hk n d=true):Nk (n+d) n=B1a n d:=by have a:=of_decide_eq_true h;unfold Nk B1a;grind
def B4n(n d:Z):0<=B1a n d/\B1a n d<=1000000:=by unfold B1a;split;{rename_i h;have a:=of_decide_eq_true h;exact Fh o o a.1 a.2.1 o o};·omega
def C57(xs:dC Z):J->Z->Z
 |0,_=>0
 |i+1,deg=>Nk (((i+1:J):Z)+(deg-xs.getD (i+1) 0)-1) ((i+1:J):Z)+C57 xs i (deg-xs.getD (i+1) 0)
def C2n(xs:dC Z):Z:=Nk (xs.length+B4g xs-1) xs.length+C57 xs (xs.length-1) (B4g xs)
section
variable {h:aE} {K:VP} {a b:dC Z} {A B:Option aF} {ac bc:J}
def Sv{n d:Z}(hK:K (.tuple #[I (B1a n d),.bool (Hk n d)]) h):aN prog 163 #[I n,I d] h K:=by refine(fnk func163) ?_;have no:¬(0<=n/\n<=6/\0<=d/\d<=24)->K (.tuple #[I 0,.bool false]) h:=fun g=>by{have:Hk n d=false:=decide_eq_false g;simpa[B1a,this]using hK};refine B9 (fun e=>no o) (fun e=>B9 (fun b=>no o) (fun b=>B9 (fun f=>no o) (fun f=>B9 (fun c=>no o) (fun c=>?_))));rw[C0 o o];have a:Hk n d=true:=decide_eq_true o;refine A1l o o o o ⟨_,rfl,?_⟩;rw[A7d a,<- a];exact hK
end
def Priv.grow{h g h2:aE}{e:aW}{s:J}{A:Option aF}{n c:J}{xs:dC aT}(p:Priv h g e s A n c xs)(hl:h.le h2):∃g2,g.le g2/\Priv h2 g2 e s A n c xs/\∀k,h k=none->g2 k=h2 k:=by rcases p with⟨q,d,⟨f,rfl⟩|⟨b,i,t,r,rfl,l⟩⟩;{exact⟨h2,hl,⟨q,d,.inl ⟨f,rfl⟩⟩,fun _ _=>rfl⟩};·have j:=hl b _ (C3 g b _);refine⟨fun k=>if k=b then none else h2 k,fun k o e=>?_,⟨q,d,.inr ⟨b,i,t,iP rfl,?_,l⟩⟩,fun k m=>?_⟩;{have a:k≠b:=gz0;show(if k=b then none else h2 k)=some o;rw[iN a];exact hl k o (by rw[C1 _ _ a];exact e)};{funext k;by_cases a:k=b;{rw[a,C3,j]};·rw[C1 _ _ a,iN a]};·have a:k≠b:=by{rintro rfl;rw[C3]at m;cases m};grind
def Yq{k:IntKind}{h h':aE}{a:aF}{xs:dC Z}(e:h' a.block=h a.block)(s:SlI k h (some a) xs):SlI k h' (some a) xs:=by rcases s with s|⟨f,c,d⟩;{exact .inl s};·cases c;refine .inr ⟨a,rfl,fun i v b=>?_⟩;have:=d i v b;unfold Heap.cell? at this ⊢;rw[Xl]at this ⊢;grind
def Ho{k:IntKind}{h h2 g2 g3:aE}{e:aW}{A:Option aF}{n c:J}{xs:dC Z}(p:Priv h2 g2 e 1 A n c (xs.map (Value.int k)))(hl:h.le g2)(hg:∀k,h k=none->g3 k=h2 k):SlI k g3 A xs:=by
 have hs:SlI k h2 A xs:=p.slV;rcases p.2.2 with⟨d,_⟩|⟨b,g,f,a,i,_⟩
 ·have j:=p.1;have h2:=p.2.1;have:xs=[]:=List.eq_nil_of_length_eq_zero gz0;subst this;exact SlI.nil
 ·subst f;refine Yq (hg b ?_) hs
  cases x:h b with
  |none=>rfl
  |some o=>have:=hl b o x;grind
def Zn{P:bL}{t e ty:aW}{z:aT}{bytes:J}(st:cY P t e z 1 bytes){h g:aE}{A:Option aF}{n c:J}{xs:dC aT}(p:Priv h g e 1 A n c xs){v:aT}(hv:v.cells=#[v])(hv1:Qj v=true)
 (hb:(2*(n+1)+192)*bytes<=281474976710656) (hm:n+1<=9223372036854775807) {K:Option aF->J->J->aE->Prop}
 (x:∀A' c' h' g',g.le g'->Priv h' g' e 1 A' (n+1) c' (xs++[v])->K A' (n+1) c' h'):
 wpH P (aX t 1 #[(0,v)]) (fun v' hp=>∃(B:Option aF) (m d:J),v'= .slice B m d/\wpH P (bJ #[t,t] ty #[.slice A n c,.slice B m d]) (fun v1 hp1=>∃(A':Option aF) (n' c':J),v1= .slice A' n' c'/\K A' n' c' hp1) hp) h:=by
 refine T6 st hv ?_;intro k a;refine⟨_,_,_,rfl,?_⟩;refine Bz st (p.put a _) (m:=1) (ys:=[v]) rfl (.inr ⟨_,rfl,?_⟩) gz0 hb hm ?_
 ·intro j u i
  cases j with
  |zero=>simp at i;subst i;rw[D9,E6];rfl
  |succ j=>grind
 ·intro A' c2 q l b f;refine⟨_,_,_,rfl,x A' c2 q l (B6 (Heap.le_put _ ?_) b) f⟩
  cases hgn:g k with
  |none=>rfl
  |some o=>have:=p.le k o hgn;grind
def MoRow(g:aE)(v:aT)(xs:dC Z):Prop:=∃A c,v= .slice A xs.length c/\SlI .i64 g A xs/\xs.length<=6
def MoRows(g:aE):dC aT->dC (dC Z)->Prop
 | [],[]=>True
 |v::vs,xs::xss=>MoRow g v xs/\MoRows g vs xss
 |_,_=>False
def MoRow.mono{g g':aE}(hl:g.le g'){v:aT}{xs:dC Z}(r:MoRow g v xs):MoRow g' v xs:=by obtain⟨A,c,a,b,d⟩:=r;exact⟨A,c,a,b.mono hl,d⟩
def MoRows.mono{g g':aE}(hl:g.le g'):∀{vs:dC aT} {xss:dC (dC Z)},MoRows g vs xss->MoRows g' vs xss
 | [],[],_=>trivial
 |_::_,_::_,⟨h1,h2⟩=>⟨h1.mono hl,MoRows.mono hl h2⟩
def MoRows.append{g:aE}:∀{vs us:dC aT} {xss yss:dC (dC Z)},MoRows g vs xss->MoRows g us yss->MoRows g (vs++us) (xss++yss)
 | [],_,[],_,_,h=>h
 |_::_,_,_::_,_,⟨h1,h2⟩,h=>⟨h1,MoRows.append h2 h⟩
def MoRows.length{g:aE}:∀{vs:dC aT} {xss:dC (dC Z)},MoRows g vs xss->vs.length=xss.length
 | [],[],_=>rfl
 |_::_,_::_,⟨_,h2⟩=>by simp[MoRows.length h2]
def MoRows.at{g:aE}:∀{vs:dC aT} {xss:dC (dC Z)} {i:J},MoRows g vs xss->i<xss.length->∃v,vs[i]? = some v/\MoRow g v (xss.getD i [])
 | [],[],_,_,h=>by simp at h
 |v::_,xs::_,0,⟨h1,_⟩,_=>⟨v,by simp,by assumption⟩
 |_::_,_::_,i+1,⟨_,h2⟩,h=>by simpa using MoRows.at (i:=i) h2 gz0
def MoPriv(h g:aE)(A:Option aF)(c:J)(xss:dC (dC Z)):Prop:=∃vs,Priv h g 38 1 A xss.length c vs/\MoRows g vs xss
def MoSl(h:aE)(A:Option aF)(xss:dC (dC Z)):Prop:=∃vs,SlV h A vs/\MoRows h vs xss
def MoPriv.slR{h g:aE}{A:Option aF}{c:J}{xss:dC (dC Z)}(p:MoPriv h g A c xss):MoSl h A xss:=by obtain⟨d,a,b⟩:=p;exact⟨d,a.slV,b.mono a.le⟩
def MoPriv.le{h g:aE}{A:Option aF}{c:J}{xss:dC (dC Z)}(p:MoPriv h g A c xss):g.le h:=by obtain⟨d,a,b⟩:=p;exact a.le
def MoPriv.grow{h g h2:aE}{A:Option aF}{c:J}{xss:dC (dC Z)}(p:MoPriv h g A c xss)(hl:h.le h2):∃g2,g.le g2/\MoPriv h2 g2 A c xss/\∀k,h k=none->g2 k=h2 k:=by obtain⟨e,d,r⟩:=p;obtain⟨g2,a,b,c⟩:=d.grow hl;exact⟨g2,a,⟨e,b,r.mono a⟩,c⟩
def Pe{P:bL}(st:cY P 80 38 (.slice none 0 0) 1 24){ty:aW}{h g:aE}{A:Option aF}{c:J}{xss:dC (dC Z)}(p:MoPriv h g A c xss){B:Option aF}{xs:dC Z}{n d:J}(hn:n=xs.length)(s:SlI .i64 g B xs)(hx:xs.length<=6)(hb:xss.length<=1000000){K:Option aF->J->J->aE->Prop} (x:∀A' c' h' g',g.le g'->MoPriv h' g' A' c' (xss++[xs])->K A' (xss++[xs]).length c' h'): wpH P (aX 80 1 #[(0,.slice B n d)]) (fun v' hp=>∃(B:Option aF) (m d:J),v'= .slice B m d/\wpH P (bJ #[80,80] ty #[.slice A xss.length c,.slice B m d]) (fun v1 hp1=>∃(A':Option aF) (n' c':J),v1= .slice A' n' c'/\K A' n' c' hp1) hp) h:=by obtain⟨e,b,r⟩:=p;refine Zn st b rfl rfl o o ?_;intro A' c' h' g' a hp;have:=x A' c' h' g' a ⟨e++[.slice B n d],gz0,(r.mono a).append ⟨⟨B,d,by rw[hn],s.mono a,hx⟩,trivial⟩⟩;grind
def Q6:J->J->dC (dC Z)
 |0,d=>if d=0 then [[]]else []
 |n+1,d=>(aL (d+1)).flatMap fun j=>(Q6 n j).map (· ++ [((d:Z)-j)])
def Rh:J->J->J
 |0,d=>if d=0 then 1 else 0
 |n+1,d=>((aL (d+1)).map (Rh n)).sum
def Pc:∀n d,(Q6 n d).length=Rh n d
 |0,d=>by simp only[Q6,Rh];grind
 |n+1,d=>by
  simp only[Q6,Rh,cL,cT];congr 1;apply cK;intro j _;exact Pc n j
def A4c:∀n d xs,xs∈Q6 n d->xs.length=n
 |0,d,xs,h=>by
  simp only[Q6]at h;grind
 |n+1,d,xs,h=>by
  simp only[Q6,List.mem_flatMap,List.mem_map]at h;obtain⟨j,_,ys,hy,rfl⟩:=h;simp[A4c n j ys hy]
def B0e:∀n:Fin 7,((aL 25).map (Rh n)).sum<=1000000:=by decide +kernel
def Iu(f:J->J){a b:J}(h:a<=b):((aL a).map f).sum<=((aL b).map f).sum:=by
 induction b with
 |zero=>grind
 |succ b ih=>
  by_cases e:a=b+1;·grind
  ·rw[aY,bI,bO];omega
def Ut{n k:J}(hn:n<=6)(hk:k<=25):((aL k).map (Rh n)).sum<=1000000:=bG (Iu (Rh n) hk) (B0e ⟨n,o⟩)
def N5(n d k:J)(tail:dC Z):dC (dC Z):=(aL k).flatMap fun j=>(Q6 n j).map (· ++ (((d:Z)-j)::tail))
def Ve(n d:J)(tail:dC Z):N5 n d (d+1) tail=(Q6 (n+1) d).map (· ++ tail):=by simp only[N5,Q6,List.map_flatMap,List.map_map];congr 1;funext j;simp_all
def So(n d k:J)(tail:dC Z):N5 n d (k+1) tail=N5 n d k tail++(Q6 n k).map (· ++ (((d:Z)-k)::tail)):=by simp[N5,aY]
def Vd(n d k:J)(tail:dC Z):(N5 n d k tail).length=((aL k).map (Rh n)).sum:=by simp only[N5,cL,cT];congr 1;apply cK;intro j _;exact Pc n j
section
variable {h g:aE} {K:VP}
def A1m(n:J):n<=6->∀(d:J) (tail:dC Z) (xss:dC (dC Z)) (R T:Option aF) (rc tc:J) (h g:aE) (K:VP),d<=24->n+tail.length<=6->xss.length+Rh n d<=1000000->MoPriv h g R rc xss->SlI .i64 g T tail->
 (∀R' c' h' g',g.le g'->MoPriv h' g' R' c' (xss++(Q6 n d).map (· ++ tail))->K (.slice R' (xss++(Q6 n d).map (· ++ tail)).length c') h')->
 aN prog 237 #[.slice R xss.length rc,I n,I d,.slice T tail.length tc] h K:=by
 induction n with
 |zero=>
  intro _ d tail xss R T rc tc h g K S W c p s t;refine(fnk func237 [(6,[0,9],[],[.slice none 0 0,I 0])]) ?_;show Br _ _ _;refine D4 (fun _=>?_) (fun O=>absurd rfl O);refine B9 (fun z=>?_) (fun z=>?_)
  ·have e:Q6 0 d=[]:=by simp only[Q6];grind
   have:=t R rc h g (B8 g) gz0;grind
  ·have G:d=0:=o;subst G;refine Fd Oe ?_;intro f a;refine⟨_,_,_,rfl,?_⟩;have D:Priv (h.put f (.cells #[] 3)) (h.put f (.cells #[] 3)) 3 1 (some ⟨f,0,none⟩) 0 0 []:=Priv.nil _ _ _ _;have X:=(s.mono p.le).mono (Heap.le_put (.cells #[] 3) a);refine Bz Oe D (m:=tail.length) (ys:=tail.map I) (by simp) ?_ (by simp[Qj]) o o ?_;·assumption
   intro A' c' V Q b q;refine⟨_,_,_,rfl,?_⟩;have r:h.le Q:=B6 (Heap.le_put _ a) b;obtain⟨L,i,u,j⟩:=p.grow (B6 r q.le);have F:SlI .i64 L A' tail:=Ho (by simpa using q) r j;refine Pe Yx u (cF _) F o o ?_;intro A4 c4 h4 g4 y p4;have:=t A4 c4 h4 g4 (B6 i y) (by assumption);assumption
 |succ n ih=>
  intro hn d tail xss R T rc tc h g K S W c p s t;have E:xss.length+((aL (d+1)).map (Rh n)).sum<=1000000:=c;refine(fnk func237 [(6,[0,9],[],[.slice none 0 0,I 0])]) ?_;refine D4 (fun O=>o) (fun _=>?_);refine⟨fun l h'=>∃(k:J) (R':Option aF) (c':J) (g':aE),l=[.slice R' (xss++N5 n d k tail).length c',I ((d:Z)-k)]/\k<=d+1/\g.le g'/\MoPriv h' g' R' c' (xss++N5 n d k tail),fun l _=>(iAt l 1+1).toNat,⟨0,R,rc,g,by simp[N5],o,B8 g,by simpa[N5]using p⟩,?_⟩;rintro R1 n1 c1 last B ⟨k,R',c',g',hl,hk,w,C⟩;obtain⟨⟨rfl,rfl,rfl⟩,rfl⟩:(R1=R'/\n1=(xss++N5 n d k tail).length/\c1=c')/\last=(d:Z)-k:=gz0;refine B9 (fun z=>?_) (fun z=>?_)
  ·refine T6 Oe rfl ?_;intro f a;refine⟨_,_,_,rfl,?_⟩;have D:Priv (B.put f (.cells #[I ((d:Z)-k)] 3)) B 3 1 (some ⟨f,0,none⟩) 1 1 [I ((d:Z)-k)]:=⟨rfl,aC _,.inr ⟨f,[I ((d:Z)-k)],rfl,a,rfl,rfl,rfl⟩⟩;have X:=((s.mono w).mono C.le).mono (Heap.le_put (.cells #[I ((d:Z)-k)] 3) a);refine Bz Oe D (m:=tail.length) (ys:=tail.map I) (by simp) ?_ (by simp[Qj]) o o ?_;·assumption
   intro A2 c2 V Q b q;refine⟨_,_,_,rfl,?_⟩;obtain⟨L,i,u,j⟩:=C.grow (B6 b q.le);have F:SlI .i64 L A2 (((d:Z)-k)::tail):=Ho (by simpa using q) b j;have e1:C4 (((n+1:J):Z)-1)=(n:Z):=by rw[C0 o o];omega
   have e2:C4 ((d:Z)-((d:Z)-k))=(k:Z):=by rw[C0 o o];omega
   have e3:C4 ((d:Z)-k-1)=(d:Z)-(k+1:J):=by rw[C0 o o];omega
   rw[e1,e2,e3];have aa:=Iu (Rh n) (show k+1<=d+1 from o);have el:1+tail.length=(((d:Z)-k)::tail).length:=gz0;rw[el]
   have N:((aL (k+1)).map (Rh n)).sum=((aL k).map (Rh n)).sum+Rh n k:=by
    rw[aY,bI,bO];simp
   refine ih o k _ _ _ _ _ _ _ _ _ o o ?_ u F ?_;·rw[List.length_append,Vd];omega
   ·intro R5 c5 h5 g5 H M;rw[cN,<- So]at M ⊢;exact⟨_,_,_,rfl,⟨k+1,R5,c5,g5,rfl,o,B6 w (B6 i H),M⟩,by simp only[iAt,aM,aJ];omega⟩
  ·have A:k=d+1:=o;subst A;have:=t R1 c1 B g' w (by rw[<- Ve];exact C);rw[<- Ve]at this;exact this
end
def Zf(n k:J):dC (dC Z):=(aL k).flatMap (Q6 n)
def A3x(n k:J):Zf n (k+1)=Zf n k++Q6 n k:=by simp[Zf,aY]
def A8a(n k:J):(Zf n k).length=((aL k).map (Rh n)).sum:=by simp only[Zf,cL];congr 1;apply cK;intro j _;exact Pc n j
def Xk(n d:Z):Z:=if Hk n d then(if B1a n d>4096 then 2 else 0)else 3
def B5l(n d:Z):dC (dC Z):=if Hk n d then(if B1a n d>4096 then []else Zf n.toNat (d.toNat+1))else []
def MoSl.nil{h:aE}{A:Option aF}:MoSl h A []:=⟨[],.inl rfl,trivial⟩
def MoSl.mono{h h':aE}(hl:h.le h'){A:Option aF}{xss:dC (dC Z)}(s:MoSl h A xss):MoSl h' A xss:=by obtain⟨c,a,b⟩:=s;exact⟨c,a.mono hl,b.mono hl⟩
section
variable {h g:aE} {K:VP}
def B0a{n d:Z}(hK:∀A c h',h.le h'->MoSl h' A (B5l n d)->K (.tuple #[.slice A (B5l n d).length c,I (Xk n d)]) h'):aN prog 170 #[I n,I d] h K:=by refine(fnk func170 [(8,[8,24],[],[.slice none 0 0,I 0])]) ?_;refine Sv ⟨_,_,rfl,?_⟩;refine Br.not (Br.of (fun e=>?_) (fun e=>?_));{refine B9 (fun r=>?_) (fun r=>?_);{have:=hK none 0 h (B8 h) (by unfold B5l;rw[iP e,iP r];exact MoSl.nil);unfold B5l Xk at this;grind};·have H:=of_decide_eq_true e;have g:=B4n n d;refine Wi Yx o g.1 o o ?_;intro b z;refine⟨_,_,_,rfl,?_⟩;obtain⟨n',rfl⟩:∃n':J,n=n':=⟨n.toNat,o⟩;obtain⟨d',rfl⟩:∃d':J,d=d':=⟨d.toNat,o⟩;have i:B5l n' d'=Zf n' (d'+1):=by{unfold B5l;grind};have D:Xk n' d'=0:=by{unfold Xk;grind};refine⟨fun l h'=>∃(k:J) (R':Option aF) (a:J) (f:aE),l=[.slice R' (Zf n' k).length a,I k]/\k<=d'+1/\h.le f/\MoPriv h' f R' a (Zf n' k),fun l _=>(d'+1)-(iAt l 1).toNat,⟨0,some ⟨b,0,none⟩,_,h,rfl,o,B8 h,[],⟨rfl,Nat.zero_le _,.inr ⟨b,aU (B1a n' d').toNat (.slice none 0 0),rfl,z,?_,?_,rfl⟩⟩,trivial⟩,?_⟩;{rw[show(Value.slice none 0 0).cells=#[.slice none 0 0]from rfl,Eh]};{simp};rintro R1 E c1 t w ⟨k,R',a,f,hl,F,u,m⟩;obtain⟨⟨rfl,rfl,rfl⟩,rfl⟩:(R1=R'/\E=(Zf n' k).length/\c1=a)/\t=(k:Z):=gz0;rw[C0 (n:=(d':Z)+1) o o];refine B9 (fun B=>?_) (fun B=>?_);{have hs:=Ut (n:=n') (k:=k+1) o o;have s:((aL (k+1)).map (Rh n')).sum=((aL k).map (Rh n')).sum+Rh n' k:=by{rw[aY,bI,bO];simp};have y:=A8a n' k;refine A1m n' o k [] (Zf n' k) R1 none c1 0 w f _ o gz0 o m SlI.nil ?_;intro R5 c5 G C p q;rw[show(Q6 n' k).map (· ++ [])=Q6 n' k by simp,<- A3x]at q ⊢;rw[C0 (n:=(k:Z)+1) o o];exact⟨_,_,_,rfl,⟨k+1,R5,c5,C,rfl,o,B6 u p,q⟩,by simp only[iAt,aM,aJ];omega⟩};·have j:k=d'+1:=o;subst j;have:=hK R1 c1 w (B6 u m.le) (by rw[i];exact m.slR);grind};·have:=hK none 0 h (B8 h) (by unfold B5l;rw[iN (by simp[e])];exact MoSl.nil);unfold B5l Xk at this;grind
end
def MoPriv.call{P:bL}{f:FuncId}{args:Array aT}{h g:aE}{A:Option aF}{c:J}{xss:dC (dC Z)}(p:MoPriv h g A c xss){K:VP}(x:aN P f args g (fun r h0=>g.le h0/\∀h',MoPriv h' h0 A c xss->K r h')):aN P f args h K:=by obtain⟨e,b,rv⟩:=p;exact b.call (x.mono fun r h0 ⟨hl,a⟩ h' d=>a h' ⟨e,d,rv.mono hl⟩)
section
variable {h g:aE} {K:VP}
def A4d(d:J):Q6 1 d=[[(d:Z)]]:=by simp only[Q6];rw[List.range_succ_eq_map];simp_all
def A6x(n:J):n<=6->∀(d:J) (xss:dC (dC Z)) (R:Option aF) (rc:J) (h g:aE) (K:VP),d<=24->xss.length+Rh n d<=1000000->MoPriv h g R rc xss->
 (∀R' c' h' g',g.le g'->MoPriv h' g' R' c' (xss++Q6 n d)->K (.slice R' (xss++Q6 n d).length c') h')->
 aN prog 78 #[.slice R xss.length rc,I n,I d] h K:=by
 induction n with
 |zero=>
  intro _ d xss R rc h g K hd r p hK;refine(fnk func78 [(8,[0,7],[],[.slice none 0 0,I 0]),(12,[0,9],[],[.slice none 0 0,I 0])]) ?_;refine D4 (fun _=>?_) (fun h0=>absurd rfl h0);refine D4 (fun h1=>?_) (fun h1=>?_)
  ·have ac:d=0:=o;subst ac;refine Pe Yx p (xs:=[]) rfl SlI.nil (by simp) o ?_;assumption
  ·have e:Q6 0 d=[]:=by simp only[Q6];grind
   have:=hK R rc h g (B8 g) gz0;grind
 |succ n ih=>
  intro hn d xss R rc h g K hd r p hK;have T:xss.length+((aL (d+1)).map (Rh n)).sum<=1000000:=r;refine(fnk func78 [(8,[0,7],[],[.slice none 0 0,I 0]),(12,[0,9],[],[.slice none 0 0,I 0])]) ?_;refine D4 (fun h0=>o) (fun _=>?_);refine D4 (fun h1=>?_) (fun h1=>?_)
  ·have V:n=0:=o;subst V;refine T6 Oe rfl ?_;intro f c;refine⟨_,_,_,rfl,?_⟩;have M:Priv (h.put f (.cells #[I d] 3)) h 3 1 (some ⟨f,0,none⟩) 1 1 ([(d:Z)].map I):=⟨rfl,aC _,.inr ⟨f,[I d],rfl,c,rfl,rfl,rfl⟩⟩;obtain⟨g3,S,p3,aa⟩:=p.grow (Heap.le_put (.cells #[I d] 3) c);have s3:SlI .i64 g3 (some ⟨f,0,none⟩) [(d:Z)]:=Ho M (B8 h) aa;refine Pe Yx p3 (xs:=[(d:Z)]) rfl s3 (by simp) o ?_;intro A4 c4 h4 g4 ae p4;have:=hK A4 c4 h4 g4 (B6 S ae) (by rw[A4d];exact p4);rw[A4d]at this;exact this
  ·refine⟨fun l h'=>∃(k:J) (R':Option aF) (c':J) (g':aE),l=[.slice R' (xss++N5 n d k []).length c',I ((d:Z)-k)]/\k<=d+1/\g.le g'/\MoPriv h' g' R' c' (xss++N5 n d k []),fun l _=>(iAt l 1+1).toNat,⟨0,R,rc,g,by simp[N5],o,B8 g,by simpa[N5]using p⟩,?_⟩;rintro R1 n1 c1 last hp ⟨k,R',c',g',hl,hk,hg,p1⟩;obtain⟨⟨rfl,rfl,rfl⟩,rfl⟩:(R1=R'/\n1=(xss++N5 n d k []).length/\c1=c')/\last=(d:Z)-k:=gz0;refine B9 (fun h2=>?_) (fun h2=>?_)
   ·have e1:C4 (((n+1:J):Z)-1)=(n:Z):=by rw[C0 o o];omega
    have e2:C4 ((d:Z)-((d:Z)-k))=(k:Z):=by rw[C0 o o];omega
    have e3:C4 ((d:Z)-k-1)=(d:Z)-(k+1:J):=by rw[C0 o o];omega
    rw[e1,e2,e3]
    have al:((aL (k+1)).map (Rh n)).sum=((aL k).map (Rh n)).sum+Rh n k:=by
     rw[aY,bI,bO];simp
    have ar:=Iu (Rh n) (show k+1<=d+1 from o);have hr:=Vd n d k [];have aq:=Pc n k;have p0:MoPriv g' g' none 0 []:=⟨[],Priv.nil _ _ _ _,trivial⟩;refine p1.call (ih o k [] none 0 g' g' _ o gz0 p0 ?_);intro R5 c5 z g5 ak Q;rw[List.nil_append]at Q ⊢;have E:g'.le z:=B6 ak Q.le;refine⟨E,fun av p6=>⟨_,_,_,rfl,?_⟩⟩;obtain⟨ao,aj,F⟩:=Q.slR;have az:=F.length;refine⟨fun l h'=>∃(m:J) (R':Option aF) (c':J) (H:aE),l=[.slice R' (xss++N5 n d k []++((Q6 n k).take m).map (· ++ [(d:Z)-k])).length c',I m]/\m<=(Q6 n k).length/\z.le H/\MoPriv h' H R' c' (xss++N5 n d k []++((Q6 n k).take m).map (· ++ [(d:Z)-k])),fun l _=>(Q6 n k).length-(iAt l 1).toNat,⟨0,R1,c1,z,by simp,o,B8 z,gz0⟩,?_⟩;rintro R7 n7 c7 i7 j ⟨m,R',c',H,ay,hm,t,G⟩;obtain⟨⟨rfl,rfl,rfl⟩,rfl⟩:(R7=R'/\n7=(xss++N5 n d k []++((Q6 n k).take m).map (· ++ [(d:Z)-k])).length/\c7=c')/\i7=(m:Z):=gz0;refine B9 (fun h3=>?_) (fun h3=>?_)
    ·have b:m<(Q6 n k).length:=o;refine Fd Oe ?_;intro f c;refine⟨_,_,_,rfl,?_⟩;have s:z.le (j.put f (.cells #[] 3)):=B6 t (B6 G.le (Heap.le_put _ c));obtain⟨v,hv,B,bc,rfl,sB,au⟩:=F.at b;obtain⟨a,ha,hc⟩:=(aj.mono s).at (i:=m) o;rw[aV o]at hv;refine⟨a,ha,o,o,B,_,bc,by rw[aI,Nat.mul_one,hc];exact hv,?_⟩
     have am:((Q6 n k).getD m []).length=n:=by
      have:(Q6 n k).getD m []=(Q6 n k)[m]:=gz0;rw[this];exact A4c n k _ (List.getElem_mem b)
     have aw:=sB.mono s;have M:Priv (j.put f (.cells #[] 3)) (j.put f (.cells #[] 3)) 3 1 (some ⟨f,0,none⟩) 0 0 []:=Priv.nil _ _ _ _;refine Bz Oe M (m:=((Q6 n k).getD m []).length) (ys:=((Q6 n k).getD m []).map I) (by simp) ?_ (by simp[Qj]) o o ?_;·assumption
     intro A9 c9 h9 g9 ah p9;refine⟨_,_,_,rfl,?_⟩;refine Zn Oe p9 rfl rfl o o ?_;intro A10 an ap W y u;have q:j.le W:=B6 (Heap.le_put _ c) (B6 ah y);obtain⟨L,A,af,D⟩:=G.grow (B6 q u.le);have N:SlI .i64 L A10 ((Q6 n k).getD m []++[(d:Z)-k]):=Ho (by simpa using u) q D
     have O:(xss++N5 n d k []++((Q6 n k).take m).map (· ++ [(d:Z)-k])).length<=1000000:=by
      grind
     refine Pe Yx af (by simp) N gz0 O ?_;intro A12 X ax ai w C
     have ag:xss++N5 n d k []++((Q6 n k).take m).map (· ++ [(d:Z)-k])++[(Q6 n k).getD m []++[(d:Z)-k]]=xss++N5 n d k []++((Q6 n k).take (m+1)).map (· ++ [(d:Z)-k]):=by
      rw[List.take_succ_eq_append_getElem b,bI,cN];grind
     rw[ag]at C ⊢;rw[C0 (n:=(m:Z)+1) o o];exact⟨⟨m+1,A12,X,ai,rfl,o,B6 t (B6 A w),C⟩,by simp only[iAt,aM,aJ];omega⟩
    ·have ad:m=(Q6 n k).length:=o;subst ad;rw[List.take_length,cN,<- So]at G ⊢;exact⟨⟨k+1,R7,c7,H,rfl,o,B6 hg (B6 E t),G⟩,by simp only[iAt,aM,aJ];omega⟩
   ·have e0:N5 n d (d+1) []=Q6 (n+1) d:=by rfl
    grind
def B04{n d:J}(hn:n<=6)(hd:d<=24)(hK:∀A c h',h.le h'->MoSl h' A (Zf n (d+1))->K (.slice A (Zf n (d+1)).length c) h'):aN prog 31 #[I n,I d] h K:=by refine(fnk func31 [(3,[5,6],[],[.slice none 0 0,I 0])]) ?_;refine⟨fun l h'=>∃(k:J) (R':Option aF) (a:J) (b:aE),l=[.slice R' (Zf n k).length a,I k]/\k<=d+1/\h.le b/\MoPriv h' b R' a (Zf n k),fun l _=>(d+1)-(iAt l 1).toNat,⟨0,none,0,h,rfl,o,B8 h,[],Priv.nil _ _ _ _,trivial⟩,?_⟩;rintro R1 r c1 t i ⟨k,R',a,b,hl,w,p,e⟩;obtain⟨⟨rfl,rfl,rfl⟩,rfl⟩:(R1=R'/\r=(Zf n k).length/\c1=a)/\t=(k:Z):=gz0;refine B9 (fun u=>?_) (fun u=>?_);{have hs:=Ut (n:=n) (k:=k+1) o o;have m:((aL (k+1)).map (Rh n)).sum=((aL k).map (Rh n)).sum+Rh n k:=by{rw[aY,bI,bO];simp};have s:=A8a n k;refine A6x n o k (Zf n k) R1 c1 i b _ o o e ?_;intro R5 c5 y q f j;rw[<- A3x]at j ⊢;rw[C0 (n:=(k:Z)+1) o o];exact⟨_,_,_,rfl,⟨k+1,R5,c5,q,rfl,o,B6 p f,j⟩,by simp only[iAt,aM,aJ];omega⟩};·have g:k=d+1:=o;subst g;exact hK R1 c1 i (B6 p e.le) e.slR
def MoSl.row{A:Option aF}{xss:dC (dC Z)}(s:MoSl h A xss){i:J}(hi:i<xss.length):∃a B bc,A=some a/\h.cell? (a.add i)=some (.slice B xss[i].length bc)/\SlI .i64 h B xss[i]/\xss[i].length<=6:=by obtain⟨c,d,rv⟩:=s;obtain⟨v,g,B,bc,rfl,f,e⟩:=rv.at hi;have b:i<c.length:=gz0;obtain⟨a,j,k⟩:=d.at b;grind
end
def mo(v d:J):dC (dC Z):=Zf v (d+1)
def mon(v d i:J):dC Z:=(mo v d).getD i []
def mi(a b:dC Z):J:=(C2n (opL (fun x y=>x+y) a b)).toNat
def C8l(v D:J):Bool:=decide ((mo v D).length<=28)&&decide (B1a v D=(mo v D).length)&&Hk v D && (aL (mo v D).length).all fun i=>W9 (mon v D i)&&decide ((mon v D i).length=v)&&decide ((C2n (mon v D i)).toNat=i) && (aL (mo v D).length).all fun k=>decide (B4m (mon v D i) (mon v D k)=if i<k then -1 else if i=k then 0 else 1)
def C8k(v d D:J):Bool:=(aL (mo v d).length).all fun i=>decide (mon v d i=mon v D i)&&(aL (mo v d).length).all fun k=>Jg (mon v d i) (mon v d k)&&W9 (opL (fun x y=>x+y) (mon v d i) (mon v d k))&&decide (mi (mon v d i) (mon v d k)<(mo v D).length)&&decide (opL (fun x y=>x+y) (mon v d i) (mon v d k)=mon v D (mi (mon v d i) (mon v d k)))&&decide (mi (mon v d i) (mon v d k)=mi (mon v d k) (mon v d i))&&decide ((C2n (opL (fun x y=>x+y) (mon v d i) (mon v d k)))=mi (mon v d i) (mon v d k))
def B76:∀v:Fin 3,∀D:Fin 7,1<=v.val->C8l v D=true:=by decide +kernel
def B75:∀v:Fin 3,∀d:Fin 4,∀D:Fin 7,1<=v.val->2*d.val<=D.val->C8k v d D=true:=by decide +kernel
structure MoFacts (v D:J):Prop where
 len:(mo v D).length<=28
 cnt:B1a v D=(mo v D).length
 rng:Hk v D=true
 val:∀ i,i<(mo v D).length->W9 (mon v D i)=true/\(mon v D i).length=v/\(C2n (mon v D i)).toNat=i
 cmp:∀ i k,i<(mo v D).length->k<(mo v D).length->B4m (mon v D i) (mon v D k)=if i<k then -1 else if i=k then 0 else 1
def Bl{v D:J}(h1:1<=v)(h2:v<=2)(hD:D<=6):MoFacts v D:=by have:=B76 ⟨v,o⟩ ⟨D,o⟩ h1;simp only[C8l,cC,decide_eq_true_eq,cO,cW]at this;obtain⟨⟨⟨d,e⟩,f⟩,b⟩:=this;exact⟨d,e,f,fun i a=>⟨(b i a).1.1.1,(b i a).1.1.2,(b i a).1.2⟩,fun i k a c=>(b i a).2 k c⟩
structure MuFacts (v d D:J) (i k:J):Prop where
 same:mon v d i=mon v D i
 pair:(Jg (mon v d i) (mon v d k)&&W9 (opL (fun x y=>x+y) (mon v d i) (mon v d k)))=true
 lt:mi (mon v d i) (mon v d k)<(mo v D).length
 eq:opL (fun x y=>x+y) (mon v d i) (mon v d k)=mon v D (mi (mon v d i) (mon v d k))
 sym:mi (mon v d i) (mon v d k)=mi (mon v d k) (mon v d i)
 idx:C2n (opL (fun x y=>x+y) (mon v d i) (mon v d k))=mi (mon v d i) (mon v d k)
def Kr{v d D i k:J}(h1:1<=v)(h2:v<=2)(hd:d<=3)(hD:D<=6)(hdD:2*d<=D)(hi:i<(mo v d).length)(hk:k<(mo v d).length):MuFacts v d D i k:=by have:=B75 ⟨v,o⟩ ⟨d,o⟩ ⟨D,o⟩ h1 hdD;simp only[C8k,cC,decide_eq_true_eq,cO,cW]at this;obtain⟨b,c⟩:=this i hi;obtain⟨⟨⟨⟨⟨j,l⟩,g⟩,f⟩,a⟩,e⟩:=c k hk;exact⟨b,by simp_all,g,f,a,e⟩
def C1a{v d i:J}(hi:i<(mo v d).length):(mo v d)[i]=mon v d i:=by unfold mon;grind
section
variable {h:aE} {K:VP} {A B:Option aF} {c cc n m v D:J} {V:J->Y}
def Ks(h1:1<=v)(h2:v<=2)(hD:D<=6)(hK:∀A c h',h.le h'->MoSl h' A (mo v D)->K (.tuple #[.slice A (mo v D).length c,I 0]) h'):aN prog 170 #[I (v:Z),I (D:Z)] h K:=by obtain⟨e,b,a,_,_⟩:=Bl h1 h2 hD;refine B0a ?_;have d:B5l (v:Z) (D:Z)=mo v D:=by{unfold B5l;rw[iP a,iN o];simp[mo]};have f:Xk (v:Z) (D:Z)=0:=by{unfold Xk;grind};grind
def Sw(h1:1<=v)(h2:v<=2)(hD:D<=6)(hK:K (.tuple #[I ((mo v D).length:Z),.bool true]) h):aN prog 163 #[I (v:Z),I (D:Z)] h K:=by obtain⟨a,c,b,_,_⟩:=Bl h1 h2 hD;refine Sv ?_;grind
def MoSl.mon(s:MoSl h A (mo v D)){i:J}(hi:i<(mo v D).length):∃a B bc,A=some a/\h.cell? (a.add (i*1))=some (.slice B (mon v D i).length bc)/\SlI .i64 h B (mon v D i):=by obtain⟨a,B,bc,e,c0,b,_⟩:=s.row hi;rw[C1a hi]at c0 b;grind
def Oh{k:J}(h1:1<=v)(h2:v<=2)(hD:D<=6)(s:MoSl h A (mo v D))(hk:k<(mo v D).length)(t:SlI .i64 h B (mon v D k))(hK:K (.tuple #[I (k:Z),.bool true]) h):aN prog 239 #[.slice A (mo v D).length c,.slice B (mon v D k).length cc,.func (.func 240) #[] #[]] h K:=by obtain⟨H,_,_,_,z⟩:=Bl h1 h2 hD;refine(fnk func239 [(3,[9,10],[],[I 0,I 0])]) ?_;refine⟨fun L l=>∃i j:J,i<=k/\k<=j/\j<=(mo v D).length/\L=[I (i:Z),I (j:Z)]/\l=h,fun L _=>(iAt L 1).toNat-(iAt L 0).toNat,⟨0,_,o,o,aC _,rfl,rfl⟩,?_⟩;rintro M G l ⟨i,j,C,g,F,y,rfl⟩;obtain⟨rfl,rfl⟩:=y;have b:C4 (Int.fdiv (C7 (C4 ((i:Z)+(j:Z)))) (2^(min ((1:Z)).toNat 64)))=(((i+j)/2:J):Z):=by{rw[C0 (n:=(i:Z)+j) o o,C5 o o];have E:(2:Z)^(min ((1:Z)).toNat 64)=2:=dc;rw[E];have w:Int.fdiv ((i:Z)+(j:Z)) 2=(((i+j)/2:J):Z):=by{grind};rw[w,C0 o o]};rw[b];refine B9 (fun q=>?_) (fun p=>?_);{have m:(i+j)/2<(mo v D).length:=o;obtain⟨a,B2,u,e,c0,f⟩:=s.mon m;refine⟨a,e,o,o,_,_,_,by exact c0,?_⟩;refine Ls f t ⟨_,rfl,?_⟩;rw[z _ _ m hk];refine B9 (fun r=>?_) (fun r=>?_);{rw[C0 o o];exact⟨⟨(i+j)/2+1,j,o,g,F,by simp,rfl⟩,by simp only[iAt,aM,aJ];omega⟩};·have d:k<=(i+j)/2:=by{omega};exact⟨⟨i,(i+j)/2,C,d,o,rfl,rfl⟩,by simp only[iAt,aM,aJ];omega⟩};·obtain rfl:i=k:=o;refine B9 (fun _=>?_) (fun e=>o);obtain⟨a,B2,u,e,c0,f⟩:=s.mon hk;refine⟨a,e,o,o,_,_,_,by exact c0,?_⟩;refine Ls f t ⟨_,rfl,?_⟩;grind
structure FnV (h:aE) (A:Option aF) (v D m:J) (V:J->Y):Prop where
 v1:1<=v
 v2:v<=2
 d6:D<=6
 row:aP SSr h A (mo v D).length (fun i=>E7 (V i))
 sz:∀ i,i<(mo v D).length->Sz m (V i)
 sm:m<=1000000
def FnV.mono{h':aE}(l:h.le h')(f:FnV h A v D m V):FnV h' A v D m V:=⟨f.v1,f.v2,f.d6,f.row.mono F1 l,f.sz,f.sm⟩
def Yf(gl:Gl h)(r:aP SSr h A n (fun i=>E7 (V i)))(hn:n<=1000000)(hs:∀i,i<n->Sz m (V i))(hm:m<=1000000)(hK:K (.bool true) h):aN prog 164 #[.slice A n c] h K:=by refine(fnk func164 [(2,[7],[],[I 0])]) ?_;refine⟨fun L d=>∃i:J,i<=n/\L=[I (i:Z)]/\d=h,fun L _=>n-(iAt L 0).toNat,⟨0,o,rfl,rfl⟩,?_⟩;rintro z d ⟨i,j,k,rfl⟩;obtain rfl:z=(i:Z):=gz0;refine B9 (fun g=>?_) (fun f=>hK);have b:i<n:=o;obtain⟨a,e,c0⟩:=r.sat b;refine⟨a,e,o,o,_,by exact c0,?_⟩;refine Qo gl (Tx.of (hs i b) o).len (fun _=>⟨_,rfl,Br.nt ?_⟩) (fun no=>absurd ⟨V i,rfl⟩ no);rw[wiS i o];exact⟨⟨i+1,o,rfl,rfl⟩,by simp only[U4];omega⟩
def Eo(gl:Gl h)(f:FnV h A v D m V)(hK:K (.bool true) h):aN prog 88 #[.agg #[I (v:Z),I (D:Z),.slice A (mo v D).length c]] h K:=by have b:=f.v1;have d:=f.v2;have a:=(Bl f.v1 f.v2 f.d6).len;refine(fnk func88 (own:=[1])) ?_;refine B9 (fun e=>o) (fun _=>B9 (fun e=>o) (fun _=>?_));refine Sw f.v1 f.v2 f.d6 ⟨_,_,rfl,?_⟩;refine Br.of (fun _=>B9 (fun _=>D4 (fun _=>?_) (fun e=>absurd rfl e)) (fun e=>o)) (fun e=>by cases e);exact Yf gl f.row o f.sz f.sm ⟨_,rfl,hK⟩
def Dt(f:FnV h A v D m V)(hK:∀T tc h',h.le h'->MoSl h' T (mo v D)->K (.agg #[.slice T (mo v D).length tc,.slice A (mo v D).length c]) h'):aN prog 183 #[.agg #[I (v:Z),I (D:Z),.slice A (mo v D).length c]] h K:=by refine(fnk func183 (own:=[1,2])) ?_;refine Ks f.v1 f.v2 f.d6 ?_;grind
def A4f{k:J}{T:Option aF}{tc:J}(f:FnV h A v D m V)(s:MoSl h T (mo v D))(hk:k<(mo v D).length)(t:SlI .i64 h B (mon v D k))(hK:K (.string (bs (E7 (V k)))) h):aN prog 233 #[.agg #[.slice T (mo v D).length tc,.slice A (mo v D).length c],.slice B (mon v D k).length cc] h K:=by refine(fnk func233 (own:=[2])) ?_;refine Oh f.v1 f.v2 f.d6 s hk t ⟨_,_,rfl,Br.nt (B9 (fun e=>o) (fun _=>?_))⟩;obtain⟨a,e,c0⟩:=f.row.sat hk;grind
end
def U2(E b:J->Y)(cols:J):J->Y:=fun k=>if k%(cols+1)<cols then E (k/(cols+1)*cols+k%(cols+1))else b (k/(cols+1))
def dm1{i j c:J}(hj:j<c):(i*c+j)/c=i/\(i*c+j)%c=j:=by rw[Nat.add_comm,Nat.add_mul_mod_self_right,Nat.mod_eq_of_lt hj,Nat.add_mul_div_right _ _ o,Nat.div_eq_of_lt hj,cF];omega
def A2p(E b:J->Y){cols i j:J}(hj:j<cols):mtx (U2 E b cols) (cols+1) i j=mtx E cols i j:=by obtain⟨c,a⟩:=dm1 (i:=i) (show j<cols+1 from o);show U2 E b cols (i*(cols+1)+j)=_;unfold U2;rw[c,a,iP hj];rfl
def Yt(E b:J->Y)(cols i:J):mtx (U2 E b cols) (cols+1) i cols=b i:=by obtain⟨c,a⟩:=dm1 (i:=i) (show cols<cols+1 from o);show U2 E b cols (i*(cols+1)+cols)=_;unfold U2;grind
def A7r{E b:J->Y}{rows cols m:J}(hs:∀i,i<rows*cols->Sz m (E i))(hb:∀i,i<rows->Sz m (b i)):∀i,i<rows*(cols+1)->Sz m (U2 E b cols i):=by intro i c;have a:i/(cols+1)<rows:=bC gz0;unfold U2;by_cases e:i%(cols+1)<cols;{rw[iP e];exact hs _ (V5 a e)};grind
abbrev Km(E b:J->Y)(rows cols:J):ES:=elE (U2 E b cols) rows (cols+1) cols
def Kc(E b:J->Y)(rows cols:J):Prop:=∀i,i<rows->(Km E b rows cols).cs.length<=i->(Km E b rows cols).R i cols=0
def A9o(E b:J->Y)(rows cols:J):J->Y:=A0r (fun _=>0) (fun m=>(Km E b rows cols).R m cols) 0 (Km E b rows cols).cs
def B2o(f:J->Y)(cs:dC J):J->J->Y
 |0=>fun _=>0
 |k+1=>fun j=>if j=cs.getD k 0 then f k else B2o f cs k j
def B2n(f:J->Y)(cs:dC J):∀k,k<=cs.length->A0r (B2o f cs k) f k (cs.drop k)=A0r (fun _=>0) f 0 cs:=by
 intro k
 induction k with
 |zero=>intro _;rfl
 |succ k ih=>
  intro a;rw[<- ih o,List.drop_eq_getElem_cons (show k<cs.length from o)];have e:cs.getD k 0=cs[k]:=gz0;show A0r (B2o f cs (k+1)) f (k+1) (cs.drop (k+1))=A0r (fun j=>if j=cs[k]then f k else B2o f cs k j) f (k+1) (cs.drop (k+1));rw[<- e];rfl
def A1b(f:J->Y)(cs:dC J):B2o f cs cs.length=A0r (fun _=>0) f 0 cs:=by have:=B2n f cs cs.length (aC _);rw[List.drop_length]at this;exact this
def B20(E b:J->Y)(rows cols:J):EqA rows (cols+1) cols (mtx (U2 E b cols) (cols+1)) (Km E b rows cols):=EqA.run _ cols o
def B51{cs:dC J}{c:J}(h:Asc cs c):cs.Nodup:=h.asc.imp fun h=>Nat.ne_of_lt h
def C35{E b:J->Y}{rows cols:J}(x:J->Y)(h:∀i,i<rows->sm cols (fun j=>mtx E cols i j*x j)=b i):Kc E b rows cols:=by intro i c e;obtain⟨T,d⟩:=(B20 E b rows cols).comb;rw[d i cols c o];have f:∀j,j<cols->sm rows (fun l=>T i l*mtx E cols l j)=0:=by{intro j a;rw[E8 (g:=fun l=>T i l*mtx (U2 E b cols) (cols+1) l j) fun l _=>by rw[A2p E b a],<- d i j c o];exact(B20 E b rows cols).zero i j c e a};rw[E8 (g:=fun l=>sm cols fun j=>T i l*mtx E cols l j*x j) fun l hl=>by rw[Yt,<- h l hl,<- Hu];grind];rw[A0o];refine Iw fun j a=>?_;rw[E8 (g:=fun l=>x j*(T i l*mtx E cols l j)) fun l _=>cD _ _,Hu,f j a,cM]
def B65{E b:J->Y}{rows cols:J}(h:¬Kc E b rows cols):∃y:J->Y,(∀j,j<cols->sm rows (fun l=>y l*mtx E cols l j)=0)/\sm rows (fun l=>y l*b l)=1:=by have:∃i,i<rows/\(Km E b rows cols).cs.length<=i/\(Km E b rows cols).R i cols≠0:=by{refine bY fun k=>h fun i d c=>bY fun a=>k ⟨i,d,c,a⟩};obtain⟨i,d,c,a⟩:=this;obtain⟨y,g,f⟩:=(B20 E b rows cols).none d c a;refine⟨y,fun j e=>?_,?_⟩;{rw[<- g j e];exact E8 fun l _=>by rw[A2p E b e]};·rw[<- f];exact E8 fun l _=>by rw[Yt]
def A5r(E b:J->Y)(rows cols:J):J->Y:=fun k=>if k<cols*rows then E (k%rows*cols+k/rows)else b (k-cols*rows)
def B6k(cols:J):J->Y:=fun i=>if i=cols then 1 else 0
def B6j(E b:J->Y){rows cols i j:J}(hi:i<cols)(hj:j<rows):mtx (A5r E b rows cols) rows i j=mtx E cols j i:=by obtain⟨c,a⟩:=dm1 (i:=i) hj;show A5r E b rows cols (i*rows+j)=_;unfold A5r;rw[iP (V5 hi hj),c,a];rfl
def B29(E b:J->Y){rows cols j:J}:mtx (A5r E b rows cols) rows cols j=b j:=by show A5r E b rows cols (cols*rows+j)=_;unfold A5r;grind
def C3b{E b:J->Y}{rows cols:J}(h:¬Kc E b rows cols):Kc (A5r E b rows cols) (B6k cols) (cols+1) rows:=by obtain⟨y,a,d⟩:=B65 h;refine C35 y fun i f=>?_;unfold B6k;by_cases e:i=cols;{subst e;rw[iP rfl,<- d];exact E8 fun j _=>by rw[B29,cD]};·rw[iN e,<- a i o];exact E8 fun j c=>by rw[B6j E b o c,cD]
def B9z{E b:J->Y}{rows cols m B:J}(hB:1<=B)(hs:∀i j,i<rows->j<cols+1->Sz B ((Km E b rows cols).R i j))(j:J):Sz B (A9o E b rows cols j):=by
 have hl:(Km E b rows cols).cs.length<=rows:=(Dw (mtx (U2 E b cols) (cols+1)) rows cols).2;unfold A9o;rw[<- A1b]
 have:∀k,k<=(Km E b rows cols).cs.length->Sz B (B2o (fun m=>(Km E b rows cols).R m cols) (Km E b rows cols).cs k j):=by
  intro k
  induction k with
  |zero=>intro _;exact Sz.zero hB
  |succ k ih=>
   intro a;show Sz B (if j=_ then _ else _);grind
 grind
def We(V:J->Y)(v d:J):J->J->Y:=fun i k=>V (mi (mon v d i) (mon v d k))
def nM(v d:J):J:=(mo v d).length
section
variable {h:aE} {K:VP} {A B T:Option aF} {c cc tc n m v d D:J} {V:J->Y}
def B0c{i k:J}(f:FnV h A v D m V)(s:MoSl h T (mo v D))(hd3:d<=3)(hD:2*d<=D)(hi:i<nM v d)(hk:k<nM v d)(sb:SlI .i64 h B (opL (fun x y=>x+y) (mon v d i) (mon v d k)))(hK:K (.string (bs (E7 (We V v d i k)))) h):aN prog 233 #[.agg #[.slice T (mo v D).length tc,.slice A (mo v D).length c],.slice B (opL (fun x y=>x+y) (mon v d i) (mon v d k)).length cc] h K:=by have q:=Kr f.v1 f.v2 hd3 f.d6 hD hi hk;rw[q.eq]at sb ⊢;exact A4f f s q.lt sb hK
def Hh(gl:Gl h)(f:FnV h A v D m V)(hd3:d<=3)(hD:2*d<=D)(hK:∀A' c' h',h.le h'->aP SSr h' A' (nM v d*nM v d) (T1 (We V v d) (nM v d))->K (.tuple #[Lj (nM v d) (nM v d) A' (nM v d*nM v d) c',I 0]) h'): aN prog 167 #[.agg #[I (v:Z),I (D:Z),.slice A (mo v D).length c],I (d:Z)] h K:=by have p:=f.v1;have s:=f.v2;have d6:=f.d6;have E:nM v d<=28:=(Bl p s (show d<=6 from o)).len;have ag:nM v d*nM v d<=28*28:=aK E E;refine(fnk func167 [(14,[62],[(11,3)],[I 0,I 0,I 0,.slice none 0 0]),(17,[68],[(11,3)],[I 0,I 0,I 0,.slice none 0 0])] (own:=[2,4,10,11]) (wr:=[1000000000])) ?_;have e2:C4 (cX (D:Z) 2)=((D/2:J):Z):=by{rw[bX o,C0 o o];omega};refine Eo gl f ⟨_,rfl,Br.nt (B9 (fun e=>o) (fun _=>?_))⟩;rw[e2];refine B9 (fun e=>o) (fun _=>Sw p s o ⟨_,_,rfl,B9 (fun e=>?_) (fun _=>?_)⟩);{unfold nM at E;omega};refine Ks p s o fun A1 c1 h1 S O=>⟨_,_,_,_,rfl,D8 (fun e=>absurd rfl e) (fun _=>?_)⟩;have C:=f.mono S;refine Dt C fun T tc u H s2=>⟨_,_,_,_,_,_,rfl,?_⟩;have f2:=C.mono H;have G:=O.mono H;clear O C;change MoSl u A1 (mo v d)at G;generalize hF:T1 (We V v d) (nM v d)=F;have l:∀i k,k<nM v d->F (i*nM v d+k)=E7 (We V v d i k):=fun i k M=>by{obtain⟨a1,a2⟩:=dm1 (i:=i) M;rw[<- hF];unfold T1;rw[a1,a2]};rw[hF]at hK;refine⟨fun L r=>∃(i:J) (A':Option aF) (c':J),i<=nM v d/\L=[I (i:Z),I (nM v d:Z),I (nM v d:Z),.slice A' (i*nM v d) c']/\Lst SSr 9 u r A' c' (i*nM v d) F,fun L _=>nM v d-(iAt L 0).toNat,⟨0,none,0,o,by rw[bF];rfl,by rw[bF];exact Lst.nil⟩,?_⟩;rintro z m0 m1 mA mn mc r ⟨i,A',c',hi,n,L⟩;simp only[aQ,aS,aR,true_and,and_true]at n;obtain⟨rfl,rfl,rfl,rfl,rfl,rfl⟩:=n;refine B9 (fun ac=>?_) (fun X=>?_);{have j:i<nM v d:=by{unfold nM at *;omega};have t:(i+1)*nM v d=i*nM v d+nM v d:=by{rw[Nat.add_mul,cQ]};have W:(i+1)*nM v d<=nM v d*nM v d:=aO _ j;obtain⟨a,B1,bc,e,c0,s0⟩:=G.mon j;refine⟨_,e,o,by unfold nM at *;omega,_,_,_,by rw[aI];exact C2 L.le c0,?_⟩;refine⟨fun L r=>∃(k:J) (A':Option aF) (c':J),k<=nM v d/\L=[I (k:Z),I (nM v d:Z),I (nM v d:Z),.slice A' (i*nM v d+k) c']/\Lst SSr 9 u r A' c' (i*nM v d+k) F,fun L _=>nM v d-(iAt L 0).toNat,⟨0,mA,mc,o,rfl,L⟩,?_⟩;rintro z m0 m1 aa ad af ae ⟨k,A2,c2,M,n,L2⟩;simp only[aQ,aS,aR,true_and,and_true]at n;obtain⟨rfl,rfl,rfl,rfl,rfl,rfl⟩:=n;refine B9 (fun Q=>?_) (fun N=>?_);{have b:k<nM v d:=by{unfold nM at *;omega};obtain⟨a3,B3,ah,e3,c3,t0⟩:=G.mon b;refine⟨_,e3,o,by unfold nM at *;omega,_,_,_,by rw[aI];exact C2 L2.le c3,?_⟩;have q:=Kr p s hd3 d6 hD j b;refine L2.call F1 fun g w=>Zm (s0.mono w) (t0.mono w) (fun no=>by rw[q.pair]at no;cases no) fun _ B h' R sB=>⟨R,fun h4 _ L3=>⟨_,_,_,_,rfl,?_⟩⟩;have L4:=L3.weak (B6 w R);refine B0c (f2.mono L4.le) (s2.mono L4.le) hd3 hD j b (sB.mono L3.le) ⟨_,rfl,B8 _,?_⟩;refine L4.pushG F1 G2 (y:=E7 (We V v d i k)) rfl (by rfl) (l i k b).symm dc o fun A5 c5 h5 L5=>?_;rw[wiS k o];exact⟨⟨k+1,_,_,o,rfl,L5.weak (B8 _)⟩,by simp only[U4];omega⟩};·obtain rfl:k=nM v d:=by{unfold nM at *;omega};rw[wiS i o];rw[<- t]at L2 ⊢;exact⟨⟨i+1,_,_,o,rfl,L2⟩,by simp only[U4];omega⟩};·obtain rfl:i=nM v d:=by{unfold nM at *;omega};exact hK _ _ _ (B6 (B6 S H) L.le) (L.row F1)
end
end Go.Proofs.YteppbhimdjmabaaGreatDoor
namespace Go.Proofs.YteppbhimdjmabaaGreatDoor
set_option maxRecDepth 20000
structure LUS where
 R:J->J->Y
 L:J->J->Y
 p:J->J
def C39(n c:J)(s:LUS):J:=fnd (fun i=>decide (s.R i c≠0)) (n-c) c
def C6g(R:J->J->Y)(c:J):J->J->Y:=fun i j=>if i<=c\/j<c then R i j else R i j-R i c/R c c*R c j
def C6i(R L:J->J->Y)(c:J):J->J->Y:=fun i j=>if j=c then(if i=c then 1 else if c<i then R i c/R c c else 0)else L i j
def C6h(n c:J)(s:LUS):LUS:=
 { R:=C6g (fun i=>s.R (xch c (C39 n c s) i)) c
   L:=C6i (fun i=>s.R (xch c (C39 n c s) i)) (fun i=>s.L (xch c (C39 n c s) i)) c
   p:=fun i=>s.p (xch c (C39 n c s) i) }
def C6k(n:J)(M:J->J->Y):J->LUS
 |0=>⟨M,fun _ _=>0,fun i=>i⟩
 |c+1=>C6h n c (C6k n M c)
structure LuI (n c m:J) (M:J->J->Y) (s:LUS):Prop where
 zero:∀ i j,i<n->c<=i->j<c->s.R i j=0
 lz:∀ i j,c<=j->s.L i j=0
 szR:∀ i j,i<n->j<n->Sz (7^c*m) (s.R i j)
 szL:∀ i j,i<n->j<n->Sz (7^c*m) (s.L i j)
 len:(Xu n ⟨M,[],1⟩ c).cs.length=c
 sync:∀ i j,i<n->c<=i->(Xu n ⟨M,[],1⟩ c).R i j=s.R i j
def inM(bo:J)(rb:J->J)(n x:J):Prop:=x=bo\/∃i,i<n/\x=rb i
structure Lu3 (h g o:aE) (bu:J) (ru:J->J) (bl:J) (rl:J->J) (bp n:J) (U L:J->J->Y) (p:J->J):Prop where
 u:Mt h g o bu ru n n U
 l:Mt h g o bl rl n n L
 p:∃ ps:dC Z,RowB o bp ps/\ps.length=n/\∀ i,i<n->ps[i]? = some ((p i:J):Z)
 ul:∀ x,inM bu ru n x->¬ inM bl rl n x
 pu:¬ inM bu ru n bp
 pl:¬ inM bl rl n bp
section
variable {h g o:aE} {bu bl bp n:J} {ru rl:J->J} {U L:J->J->Y} {p:J->J}
end
structure LOut where
 d:Z
 n:J
 q:J
 p:J->J
 l:J->dC UInt8
 u:J->dC UInt8
 e:Z
section
variable {h:aE} {K:VP} {A:Option aF} {n cap m:J} {r c:Z} {la:J->dC UInt8}
end
def QM(g o:aE)(b n:J)(L:J->J->Y):Prop:=∃xs:dC QV,RowX o b xs/\xs.length=n*n/\∀i j,i<n->j<n->∃w,xs[i*n+j]? = some w/\RQ g w (L i j)
def inT(T:Tb)(x:J):Prop:=x=T.bt\/x=T.bE\/x=T.bS
section
variable {g o:aE} {b n:J} {L:J->J->Y}
end
structure LuT (h g o:aE) (T:Tb) (M:J->J->Z) (S:J->Y) (bp bl bu n:J) (p:J->J) (L U:J->J->Y):Prop where
 t:Tab h g o T M S
 p:∃ ps:dC Z,RowB o bp ps/\ps.length=n/\∀ i,i<n->ps[i]? = some ((p i:J):Z)
 l:QM g o bl n L
 u:QM g o bu n U
 tp:¬ inT T bp
 tl:¬ inT T bl
 tu:¬ inT T bu
 pl:bp≠bl
 pu:bp≠bu
 lu:bl≠bu
section
variable {h g o:aE} {T:Tb} {M:J->J->Z} {S:J->Y} {bp bl bu n:J} {p:J->J} {L U:J->J->Y}
end
def fr1{l s r:Y}(hl:l≠0)(hs:s≠0):l*(s*r)/l/s=r:=by have a:=bK _ hl;have b:=bK _ hs;rw[cJ,cJ];grind
def fr2{l si ri sk rk:Y}(hl:l≠0)(hi:si≠0)(hk:sk≠0):l*(si*ri)/(l*(sk*rk))*sk/si=ri/rk:=by have a:=bK _ hl;have b:=bK _ hi;have c:=bK _ hk;rw[cJ,cJ,cJ,Rat.inv_mul_rev,Rat.inv_mul_rev];grind
structure LuF (E:J->Y) (n k m:J):Prop where
 row:Vc n k (elP E n n k)=C39 n k (C6k n (mtx E n) k)
 val:∀ i j,i<n->k<=i->j<n->((elP E n n k).M i j:Y)=(elP E n n k).last*((elP E n n k).S i*(C6k n (mtx E n) k).R i j)
 last:(elP E n n k).last≠0
 S:∀ i,i<n->(elP E n n k).S i≠0
 len:(elP E n n k).cs.length=k
 zM:∀ a b,a<n->b<n->ZB (3^k*bnd n m) ((elP E n n k).M a b)
 zl:ZB (3^k*bnd n m) (elP E n n k).last
 zS:∀ a,a<n->Sz (bnd n m) ((elP E n n k).S a)
section
variable {h:aE} {K:VP} {A:Option aF} {n cap m:J} {r c:Z} {la:J->dC UInt8}
end
set_option maxRecDepth 20000
def B5g{X yq9:Prop}(x:X):Br true X yq9:=x
section
variable {h:aE} {A:Option aF} {n cap:J} {r c:Z} {ls:J->dC UInt8}
end
def eq0{d:Y}:(bZ (bs (E7 d))==bZ ({data:=#[48] }:ByteArray))=decide (d=0):=by have a:({data:=#[48] }:ByteArray)=bs (E7 0):=by{rw[A2v];rfl};rw[a,Ib];by_cases h:d=0;{rw[h];simp};·rw[decide_eq_false h];exact decide_eq_false fun e=>h (A0h e)
section
variable {h:aE} {K:VP} {A:Option aF} {n cap m:J} {r c:Z} {la:J->dC UInt8}
end
end Go.Proofs.YteppbhimdjmabaaGreatDoor
namespace Go.Proofs.YteppbhimdjmabaaGreatDoor
set_option maxRecDepth 20000
def ldA(A:J->J->Y):J->J->J->Y
 |0=>A
 |k+1=>fun i j=>if ldA A k k k=0 then ldA A k i j else ldA A k i j-ldA A k i k*(ldA A k k j/ldA A k k k)
def Xr(A:J->J->Y)(n k:J):Prop:=0<=ldA A k k k/\(ldA A k k k=0->∀i,k<i->i<n->ldA A k i k=0)
def ldL(A:J->J->Y)(i k:J):Y:=if i=k then 1 else if i<k then 0 else if ldA A k k k=0 then 0 else ldA A k i k/ldA A k k k
def ldD(A:J->J->Y)(k:J):Y:=ldA A k k k
def A7o(n:J)(A:J->J->Y):Prop:=∀i j,i<n->j<n->A i j=A j i
def B77{A:J->J->Y}{n:J}(hs:A7o n A):∀k,k<=n->A7o n (ldA A k):=by
 intro k
 induction k with
 |zero=>exact fun _=>hs
 |succ k ih=>
  intro c i j b a;have h:=ih o;show(if ldA A k k k=0 then ldA A k i j else _)=(if ldA A k k k=0 then ldA A k j i else _);split;·exact h i j b a
  ·rw[h i j b a,h i k b o,h k j o a];grind
def A8k{A:J->J->Y}{n:J}(hs:A7o n A):∀k,k<=n->(∀m,m<k->Xr A n m)->∀i j,i<n->j<n->i<k\/j<k->ldA A k i j=0:=by
 intro k
 induction k with
 |zero=>omega
 |succ k ih=>
  intro g a i j q l h;have d:=B77 hs k o;obtain⟨_,p⟩:=a k o
  have row:ldA A k k k=0->∀b,b<n->ldA A k k b=0:=fun e b f=>by
   rcases Nat.lt_trichotomy b k with c|c|c;·grind
   ·grind
   ·rw[d k b o f];grind
  show(if ldA A k k k=0 then ldA A k i j else _)=0;grind
structure LdR (n k:J) (A:J->J->Y) (s:ES):Prop where
 len:s.cs.length<=k
 low:∀ i j,k<=i->i<n->j<n->s.R i j=ldA A k i j
 zero:∀ i j,s.cs.length<=i->i<k->j<n->s.R i j=0
def LdR.row{n k:J}{A:J->J->Y}{s:ES}(h:LdR n k A s)(hk:k<n)(hne:ldA A k k k≠0):No n k s=k:=by have c:=h.len;refine A4q _ c o (fun j a b=>?_) fun _=>?_;{rw[h.zero j k a b hk];decide};·rw[h.low k k (aC _) hk hk];grind
def LdR.none{n k:J}{A:J->J->Y}{s:ES}(h:LdR n k A s)(hk:k<n)(he:ldA A k k k=0)(hok:Xr A n k):No n k s=n:=by have d:=h.len;refine A4q _ o o (fun j a b=>?_) fun c=>by{omega};by_cases c:j<k;{rw[h.zero j k a c hk];decide};·rw[h.low j k o b hk];by_cases e:j=k;{grind};·rw[hok.2 he j o b];decide
def LdR.step{n k:J}{A:J->J->Y}{s:ES}(hs:A7o n A)(hk:k<n)(hok:∀m,m<=k->Xr A n m)(h:LdR n k A s):LdR n (k+1) A (Iv n k s):=by have w:=h.len;have z:=A8k hs k o fun m p=>hok m o;have t:=A8k hs (k+1) o fun m p=>hok m o;unfold Iv;rw[iP (show s.cs.length<n from o)];by_cases e:ldA A k k k=0;{rw[h.none hk e (hok k (aC _)),iN (Nat.lt_irrefl n)];refine⟨gz0,fun i j f a d=>?_,fun i j f g d=>?_⟩;{show s.R i j=(if ldA A k k k=0 then ldA A k i j else _);rw[iP e];exact h.low i j o a d};·show s.R i j=0;by_cases c:i=k;{rw[c,h.low k j (aC _) hk d];have:=t k j hk d (.inl o);rw[show ldA A (k+1) k j=(if ldA A k k k=0 then ldA A k k j else ldA A k k j-ldA A k k k*(ldA A k k j/ldA A k k k))from rfl,iP e]at this;exact this};·exact h.zero i j f o d};·rw[h.row hk e,iP hk];have hl:(s.cs++[k]).length=s.cs.length+1:=by{simp};have q:=Nr s.cs.length k;refine⟨gz0,fun i j f a d=>?_,fun i j f g d=>?_⟩;{show elimE (fun i=>s.R (xch s.cs.length k i)) s.cs.length k i j=(if ldA A k k k=0 then ldA A k i j else _);have u:xch s.cs.length k i=i:=by{unfold xch;grind};unfold elimE;simp only[q,u];rw[h.low i k o a hk,h.low i j o a d,h.low k j (aC _) hk d,h.low k k (aC _) hk hk];grind};·show elimE (fun i=>s.R (xch s.cs.length k i)) s.cs.length k i j=0;have r:(s.cs++[k]).length<=i:=f;have y:∀b,b<n->s.R (xch s.cs.length k i) b=0:=fun b l=>by{unfold xch;rw[iN o];split;{exact h.zero _ b (aC _) o l};·exact h.zero i b o o l};unfold elimE;grind
def LdR.run{n:J}{A:J->J->Y}(hs:A7o n A):∀k,k<=n->(∀m,m<k->Xr A n m)->LdR n k A (Xu n ⟨A,[],1⟩ k):=by
 intro k
 induction k with
 |zero=>exact fun _ _=>⟨aC _,fun _ _ _ _ _=>rfl,fun i j _ h _=>o⟩
 |succ k ih=>exact fun c a=>LdR.step hs o (fun m b=>a m o) (ih o fun m b=>a m o)
def qf(n:J)(A:J->J->Y)(x:J->Y):Y:=sm n fun i=>x i*sm n fun j=>A i j*x j
def C1f{A:J->J->Y}{i k:J}(h:i<k):ldL A i k=0:=by unfold ldL;grind
def C1e(A:J->J->Y)(k:J):ldL A k k=1:=by unfold ldL;grind
def Sep.storeRaw{P:bL}{t:aW}{m:J}(one:P.cellsOf t=m/\(P.info? t).isSome=true){v:aT}{vs:dC aT}(hv:v.cells=vs.toArray)(hl:vs.length=m)(h1:∀x∈vs,Qj x=true){h g o:aE}(s:Sep h g o){b:J}{arr:dC aT}{e:aW}(hb:o b=some (.cells arr.toArray e)){off:J}(hoff:off+m<=arr.length){K:Unit->aE->Prop} (x:∀h' o',o'=o.put b (.cells (J0 arr off vs).toArray e)->Sep h' g o'->K () h'):wpH P (aZ t (.pointer (some ⟨b,off,none⟩)) v) K h:=by obtain⟨f,c⟩:=Option.isSome_iff_exists.1 one.2;have hs:f.size=m:=by{simpa[Program.cellsOf,c]using one.1};have a:(h.without b).put b (.cells arr.toArray e)=h:=P8 (s.own b _ hb);unfold aZ;simp only[C8,Instr.sureAddr,I5,storeVar,K4 c,hs,hv,List.size_toArray,hl,ne_eq,not_true_eq_false,if_false];rw[<- a];refine H8 vs off 0 _ oo h1 ?_;rw[Nat.add_zero];have d:(h.without b).put b (.cells (J0 arr off vs).toArray e)=h.put b (.cells (J0 arr off vs).toArray e):=by{rw[<- a,Kd,a]};rw[d];exact x _ _ rfl (s.upd hb _)
def B34:prog.cellsOf 3=1/\(prog.info? 3).isSome=true:=⟨by kernel_rfl,by kernel_rfl⟩
def B33:prog.cellsOf 128=1/\(prog.info? 128).isSome=true:=⟨by kernel_rfl,by kernel_rfl⟩
def QB(g o:aE)(b n:J)(f:J->Y):Prop:=∃xs:dC QV,RowX o b xs/\xs.length=n/\Row RQr g xs n f
def onT(T:Tb)(x:J):Prop:=x=T.bt\/x=T.bE\/x=T.bS
section
variable {g o:aE} {b n:J} {f:J->Y}
def QB.ko(q:QB g o b n f){g' o':aE}(l:g.le g')(e:o' b=o b):QB g' o' b n f:=by obtain⟨xs,r,a,c⟩:=q;exact⟨xs,r.keep fun x d=>gz0,a,c.mono H2 l⟩
def QB.congr(q:QB g o b n f){f':J->Y}(e:∀i,i<n->f i=f' i):QB g o b n f':=by obtain⟨xs,r,a,c⟩:=q;exact⟨xs,r,a,c.congr e⟩
def QB.at(q:QB g o b n f){i:J}(hi:i<n):∃w:QV,RQ g w (f i)/\o.cell? (aH (aH ⟨b,0,none⟩ (i*4)) 0)=some (.bool w.s)/\o.cell? (aH (aH ⟨b,0,none⟩ (i*4)) 1)=some (.slice w.A w.n w.c)/\o.cell? (aH (aH ⟨b,0,none⟩ (i*4)) 2)=some (.bool w.s2)/\o.cell? (aH (aH ⟨b,0,none⟩ (i*4)) 3)=some (.slice w.A2 w.n2 w.c2):=by obtain⟨xs,r,t,m⟩:=q;obtain⟨w,d,e⟩:=m i hi;have a:i<xs.length:=oo;have cell:∀k v,(enc xs[i])[k]? = some v->o.cell? (aH (aH ⟨b,0,none⟩ (i*4)) k)=some v:=by{intro k v l;rw[D9,D9,cF];exact r.rowB.cell (i:=i) a (j:=k) l};rw[aV a]at d;have p:=Option.some.inj d;rw[p]at cell;exact⟨w,e,cell 0 _ rfl,cell 1 _ rfl,cell 2 _ rfl,cell 3 _ rfl⟩
def QB.rowV(q:QB g o b n f){h:aE}(s:Sep h g o):aP RQr h (some ⟨b,0,none⟩) n f:=by obtain⟨xs,r,a,c⟩:=q;exact⟨xs,r.rowB.slF s.ole,a,c.mono H2 s.le⟩
def QB.store(q:QB g o b n f){h:aE}(s:Sep h g o){i:J}(hi:i<n){w:QV}{z:Y}(hw:RQ g w z){K:Unit->aE->Prop} (k:∀h' o',Sep h' g o'->QB g o' b n (fun a=>if a=i then z else f a)->(∀y,y≠b->o' y=o y)->K () h'):wpH prog (aZ 143 (.pointer (some (aH ⟨b,0,none⟩ (i*4)))) w.v) K h:=by obtain⟨xs,r,p,j⟩:=q;have c:i<xs.length:=oo;refine P7 Gy (y:=w) rfl s r (i:=i) c ?_;intro h' o' t l d e;exact k h' o' d ⟨_,e,gz0,Row.upd j c hw⟩ (fun y m=>by rw[l,C1 _ _ m])
end
structure El (h g o:aE) (be:J) (T:Tb) (M:J->J->Z) (S:J->Y) (n k:J) (w:IV) (z:Z) (L D:aT):Prop where
 t:Tab h g o T M S
 rows:T.rows=n
 cols:T.cols=n
 hd:∃ e,o be=some (.cells (List.toArray [I (n:Z),I (k:Z),.pointer (some ⟨T.bt,0,none⟩),.bool w.s,.slice w.A w.n w.c,L,D]) e)
 off:¬ onT T be
 last:ZIr g w z
section
variable {h g o:aE} {be:J} {T:Tb} {M:J->J->Z} {S:J->Y} {n k:J} {w:IV} {z:Z} {L D:aT} {K:VP} {m:J}
def El.cell(X:El h g o be T M S n k w z L D){i:J}{v:aT}(hv:[I (n:Z),I (k:Z),.pointer (some ⟨T.bt,0,none⟩),.bool w.s,.slice w.A w.n w.c,L,D][i]? = some v):h.cell? ⟨be,i,none⟩=some v:=by obtain⟨e,a⟩:=X.hd;refine X.t.sep.cell ?_;unfold Heap.cell?;grind
def El.c0(X:El h g o be T M S n k w z L D):h.cell? (aH ⟨be,0,none⟩ 0)=some (I (n:Z)):=by exact X.cell rfl
def El.c1(X:El h g o be T M S n k w z L D):h.cell? (aH ⟨be,0,none⟩ 1)=some (I (k:Z)):=by exact X.cell rfl
def El.c2(X:El h g o be T M S n k w z L D):h.cell? (aH ⟨be,0,none⟩ 2)=some (.pointer (some ⟨T.bt,0,none⟩)):=by exact X.cell rfl
def El.c3(X:El h g o be T M S n k w z L D):h.cell? (aH (aH ⟨be,0,none⟩ 3) 0)=some (.bool w.s):=by exact X.cell rfl
def El.c4(X:El h g o be T M S n k w z L D):h.cell? (aH (aH ⟨be,0,none⟩ 3) 1)=some (.slice w.A w.n w.c):=by exact X.cell rfl
def El.c5(X:El h g o be T M S n k w z L D):h.cell? (aH ⟨be,0,none⟩ 5)=some L:=by exact X.cell rfl
def El.c6(X:El h g o be T M S n k w z L D):h.cell? (aH ⟨be,0,none⟩ 6)=some D:=by exact X.cell rfl
def El.next(X:El h g o be T M S n k w z L D){h' g':aE}(s:Sep h' g' o)(l:g.le g'):El h' g' o be T M S n k w z L D:=⟨X.t.next s l,X.rows,X.cols,X.hd,X.off,Q8 _ _ _ _ l X.last⟩
def Tab.away(t:Tab h g o T M S){h' o':aE}(s:Sep h' g o'){b:J}(hb:¬onT T b)(ko:∀y,y≠b->o' y=o y):Tab h' g o' T M S:=t.keep s (B8 _) (fun k x e c=>by rw[ko k (fun a=>hb (a▸c))];exact e)
def El.away(X:El h g o be T M S n k w z L D){h' o':aE}(s:Sep h' g o'){b:J}(hb:¬onT T b)(hbe:be≠b)(ko:∀y,y≠b->o' y=o y):El h' g o' be T M S n k w z L D:=by obtain⟨e,a⟩:=X.hd;exact⟨X.t.away s hb ko,X.rows,X.cols,⟨e,gz0⟩,X.off,X.last⟩
def El.set(X:El h g o be T M S n k w z L D){t:aW}{q off:J}{v:aT}{vs:dC aT}(one:prog.cellsOf t=q/\(prog.info? t).isSome=true)(hv:v.cells=vs.toArray)(hl:vs.length=q)(h1:∀x∈vs,Qj x=true)(hoff:off+q<=7){n' k':J}{w':IV}{z':Z}{L' D':aT}(hn:n'=n)(hw:ZIr g w' z') (hs:J0 [I (n:Z),I (k:Z),.pointer (some ⟨T.bt,0,none⟩),.bool w.s,.slice w.A w.n w.c,L,D] off vs=[I (n':Z),I (k':Z),.pointer (some ⟨T.bt,0,none⟩),.bool w'.s,.slice w'.A w'.n w'.c,L',D']) {K:Unit->aE->Prop} (x:∀h' o',El h' g o' be T M S n' k' w' z' L' D'->(∀y,y≠be->o' y=o y)->K () h'):wpH prog (aZ t (.pointer (some (aH ⟨be,0,none⟩ off))) v) K h:=by obtain⟨e,b⟩:=X.hd;rw[D9,cF];refine X.t.sep.storeRaw one hv hl h1 b hoff ?_;intro h' o' a d;have ko:∀y,y≠be->o' y=o y:=fun y f=>by{rw[a,C1 _ _ f]};subst hn;exact x h' o' ⟨X.t.away d X.off ko,X.rows,X.cols,⟨e,by rw[a,C3,hs]⟩,X.off,hw⟩ ko
def C20(X:El h g o be T M S n k w z L D)(gl:Gl g){i j:J}(hi:i<n)(hj:j<n)(bm:ZB m (M i j))(bz:ZB m z)(bs:Sz m (S i))(hd:Sz m (cU (M i j) z))(hm1:1<=m)(hm:m<=6400000000) (hK:∀w' h' g',g.le g'->Sep h' g' o->h.le h'->RQ g' w' (cU (M i j) z/S i)->K w'.v h'):aN prog 282 #[.pointer (some ⟨be,0,none⟩),I (i:Z),I (j:Z)] h K:=by have a:i<T.rows:=by{rw[X.rows];exact hi};have e:j<T.cols:=by{rw[X.cols];exact hj};refine(fnk func282 (os:=[(1,[0,1,2,3,4,6,9,10,11,12,14,15,16,17,18,19,20,21,22,23,5,7,8,13,24,25])]) (own:=[6])) ?_;obtain⟨H,is,A,y,l,q⟩:=X.t.sat a;obtain⟨N,B,p,C⟩:=X.t.at a e;refine⟨_,rfl,_,X.c2,_,rfl,_,_,_,_,X.c3,X.c4,_,rfl,_,X.c2,_,rfl,_,_,_,X.t.c2,_,rfl,oo,oo,_,_,_,_,_,_,_,_,A,y,l,q,?_⟩;refine Ae X.t a ⟨_,_,_,rfl,B8 _,_,rfl,oo,oo,_,_,_,_,p,C,?_⟩;refine X.t.sep.call (K7 gl.tz B X.last bm bz hm ?_);intro F O c i1 G b;refine⟨_,_,_,_,_,_,_,_,rfl,X.t.sep.le_le b c,?_⟩;refine b.call (Zd (gl.mono c).tz i1 (H2 _ _ _ _ c is) hd bs hm1 hm ?_);intro E u f s r d;exact⟨_,_,_,_,_,_,_,_,rfl,b.le_le d f,hK E r u (B6 c f) d (B6 (X.t.sep.le_le b c) (b.le_le d f)) s⟩
def A42(X:El h g o be T M S n k w z L D)(hk:k<n)(hn:n<=10000) (hK1:∀i:J,k<i->i<n->M i k≠0->K (.tuple #[I (i:Z),.bool true]) h) (hK0:(∀j,k<j->j<n->M j k=0)->K (.tuple #[I 0,.bool false]) h):aN prog 283 #[.pointer (some ⟨be,0,none⟩)] h K:=by refine(fnk func283 [(2,[4],[],[I 0])] (os:=[(4,[0,1,2,3,4,6,7,8,9,5,10,11,12,13])])) ?_;refine⟨_,rfl,_,X.c1,?_⟩;rw[wiS k oo];refine⟨fun L' p=>∃i:J,k<i/\i<=n/\L'=[I (i:Z)]/\p=h/\∀j,k<j->j<i->M j k=0,fun L' _=>n-(iAt L' 0).toNat,⟨k+1,oo,oo,rfl,rfl,fun j _ _=>oo⟩,?_⟩;rintro y p ⟨i,l,E,C,rfl,q⟩;obtain rfl:=sI1 C;refine⟨_,rfl,_,X.c0,B9 (fun u=>?_) (fun r=>hK0 fun j a b=>q j a oo)⟩;have d:i<n:=oo;have f:i<T.rows:=by{rw[X.rows];exact d};have m:k<T.cols:=by{rw[X.cols];exact hk};refine⟨_,rfl,_,X.c2,_,rfl,_,X.c1,?_⟩;obtain⟨F,A,s,B⟩:=X.t.at f m;refine Ae X.t f ⟨_,_,_,rfl,B8 _,_,rfl,oo,oo,_,_,_,_,s,B,?_⟩;refine F6 (A.mono X.t.sep.le) ⟨_,rfl,B8 _,Br.not (B9 (fun e=>?_) (fun e=>hK1 i l d e))⟩;rw[wiS i oo];refine⟨⟨i+1,oo,oo,rfl,rfl,fun j a b=>?_⟩,by simp only[U4];omega⟩;by_cases c:j=i;{rw[c];exact e};·exact q j a oo
def A5f(X:El h g o be T M S n k w z L D)(hk:k<n)(hn:n<=10000)(hz:z≠0)(hM:∀a b,k<=a->a<n->b<n->ZB m (M a b))(bz:ZB m z)(hm1:1<=m)(hm:2*m+1<=100000000) (hK:∀h' g' o' w',g.le g'->El h' g' o' be T (fun a b=>if k<a then(M k k*M a b-M a k*M k b).tdiv z else M a b) S n (k+1) w' (M k k) L D->(∀b,¬onT T b->b≠be->o' b=o b)->K (.tuple #[]) h'):aN prog 285 #[.pointer (some ⟨be,0,none⟩)] h K:=by refine(fnk func285 [(2,[3],[],[I 0])] (wr:=[246])) ?_;refine⟨_,rfl,_,X.c1,?_⟩;rw[wiS k oo];refine⟨fun L' Q=>∃(i:J) (r C:aE),k<i/\i<=n/\L'=[I (i:Z)]/\g.le r/\El Q r C be T (fun a b=>if k<a/\a<i then(M k k*M a b-M a k*M k b).tdiv z else M a b) S n k w z L D/\(∀b,¬onT T b->b≠be->C b=o b),fun L' _=>n-(iAt L' 0).toNat,⟨k+1,g,o,oo,oo,rfl,B8 _,⟨X.t.congr (fun a b _ _=>by rw[iN oo]) (fun _ _=>rfl),X.rows,X.cols,X.hd,X.off,X.last⟩,fun _ _ _=>rfl⟩,?_⟩;rintro y Q ⟨i,r,C,W,ac,eL,O,X1,ko⟩;obtain rfl:=sI1 eL;refine⟨_,rfl,_,X1.c0,B9 (fun aa=>?_) (fun V=>?_)⟩;{have F:i<n:=oo;refine⟨_,rfl,_,X1.c2,_,rfl,_,_,_,_,X1.c3,X1.c4,?_⟩;have er:=X.rows;have ec:=X.cols;refine Zs (m:=m) X1.t (i:=i) (p:=k) (c:=k) oo oo oo oo X1.last hz hm1 hm (fun b f=>by rw[iN oo];exact hM i b oo F oo) (fun b f=>by rw[iN oo];exact hM k b (aC _) hk oo) bz ?_;intro h2 g2 o2 R t2 ko2;rw[wiS i oo];have N:be≠T.bE:=fun e=>X.off (.inr (.inl e));obtain⟨e,he⟩:=X1.hd;refine⟨rfl,⟨i+1,g2,o2,oo,oo,rfl,B6 O R,⟨t2.congr (fun a b _ _=>?_) (fun _ _=>rfl),er,ec,⟨e,by rw[ko2 _ N];exact he⟩,X.off,Q8 _ _ _ _ R X1.last⟩,fun b f d=>by rw[ko2 b (fun e=>f (.inr (.inl e)))];exact ko b f d⟩,by simp only[U4];omega⟩;by_cases c:a=i;{have q1:¬(k<k/\k<i):=oo;have q2:¬(k<i/\i<i):=oo;simp only[iN q1,iN q2];rw[iP c,iP (show k<a/\a<i+1 from oo),c]};·rw[iN c];by_cases c2:k<a/\a<i;{rw[iP c2,iP oo]};·rw[iN c2,iN (show ¬(k<a/\a<i+1)from oo)]};·have H:i=n:=oo;subst H;have l:k<T.rows:=by{rw[X.rows];exact hk};have u:k<T.cols:=by{rw[X.cols];exact hk};refine⟨_,rfl,_,X1.c2,?_⟩;obtain⟨j,G,e0,e1⟩:=X1.t.at l u;rw[iN oo]at G;refine Ae X1.t l ⟨_,_,_,rfl,_,rfl,oo,oo,_,_,_,_,e0,e1,?_⟩;refine⟨_,rfl,?_⟩;refine X1.set (n':=i) (k':=k) (w':=j) (z':=M k k) (L':=L) (D':=D) (vs:=[.bool j.s,.slice j.A j.n j.c]) Uo rfl rfl (by intro x q;simp only[bM,bH,or_false]at q;rcases q with rfl|rfl<;>rfl) oo rfl G rfl ?_;intro h3 o3 X3 B;refine⟨_,rfl,_,X3.c1,_,rfl,?_⟩;rw[wiS k oo];refine X3.set (n':=i) (k':=k+1) (w':=j) (z':=M k k) (L':=L) (D':=D) (vs:=[I ((k+1:J):Z)]) B34 rfl rfl (by intro x q;simp only[bM,bH,or_false]at q;subst q;rfl) oo rfl G rfl ?_;intro h4 o4 X4 E;refine hK h4 r o4 j O ⟨X4.t.congr (fun a b ha f=>?_) (fun _ _=>rfl),X4.rows,X4.cols,X4.hd,X4.off,X4.last⟩ (fun b f d=>by rw[E b d,B b d];exact ko b f d);have:a<i:=by{rw[<- X.rows];exact ha};by_cases c:k<a;{rw[iP ⟨c,this⟩,iP c]};·rw[iN (fun x=>c x.1),iN c]
end
def C8m{l s r:Y}(hl:l≠0)(hs:s≠0):l*(s*r)/l/s=r:=by grind
section
variable {E:J->Y} {n k:J}
def B40(sy:A7o n (mtx E n))(hk:k<=n)(ok:∀m,m<k->Xr (mtx E n) n m):LdR n k (mtx E n) (elE E n n k):=LdR.run sy k hk ok
def B93(hk:k<n):Vc n k (elP E n n k)=No n k (elE E n n k):=(A4y E (Nat.le_of_lt hk)).row hk
def A8w(sy:A7o n (mtx E n))(hk:k<n)(ok:∀m,m<=k->Xr (mtx E n) n m)(e:ldA (mtx E n) k k k=0):elP E n n (k+1)=elP E n n k:=by have r:=B93 (E:=E) hk;rw[(B40 sy o fun m a=>ok m o).none hk e (ok k (aC _))]at r;show Ey n k (elP E n n k)=_;unfold Ey;grind
def A8v(sy:A7o n (mtx E n))(hk:k<n)(ok:∀m,m<k->Xr (mtx E n) n m)(e:ldA (mtx E n) k k k≠0): (∀i j,k<i->i<n->(elP E n n (k+1)).M i j=((elP E n n k).M k k*(elP E n n k).M i j-(elP E n n k).M i k*(elP E n n k).M k j).tdiv (elP E n n k).last)/\(elP E n n (k+1)).last=(elP E n n k).M k k/\∀i,k<i->(elP E n n (k+1)).S i=(elP E n n k).S i:=by have R:=B40 sy o ok;have r:=B93 (E:=E) hk;rw[R.row hk e]at r;have hl:=R.len;rw[<- A7a E (Nat.le_of_lt hk)]at hl;have a:elP E n n (k+1)=Ey n k (elP E n n k):=rfl;unfold Ey at a;rw[r,iP hk]at a;generalize elP E n n k=s at *;have c:=Nr s.cs.length k;have d:∀i,k<i->xch s.cs.length k i=i:=fun i b=>by{unfold xch;grind};rw[a];refine⟨fun i j b _=>?_,rfl,fun i b=>?_⟩;{show clr (fun i=>s.M (xch s.cs.length k i)) s.cs.length k s.last i j=_;unfold clr;grind};grind
def C8y(sy:A7o n (mtx E n)):∀k,k<=n->(∀m,m<k->Xr (mtx E n) n m)->∀i,k<=i->i<n->(elP E n n k).S i=Xt E n i:=by
 intro k
 induction k with
 |zero=>intro _ _ i _ _;rfl
 |succ k ih=>
  intro d ok i f b;have a:=ih o (fun m c=>ok m o) i o b;by_cases e:ldA (mtx E n) k k k=0;·rw[A8w sy d (fun m c=>ok m o) e];exact a
  ·rw[(A8v sy d (fun m c=>ok m o) e).2.2 i o];exact a
structure LdF (E:J->Y) (n k Q:J):Prop where
 val:∀ i j,k<=i->i<n->j<n->((elP E n n k).M i j:Y)=(elP E n n k).last*(Xt E n i*ldA (mtx E n) k i j)
 last:(elP E n n k).last≠0
 zM:∀ a b,a<n->b<n->ZB Q ((elP E n n k).M a b)
 zl:ZB Q (elP E n n k).last
 zS:∀ a,a<n->Sz Q (Xt E n a)
 zA:∀ i j,k<=i->i<n->j<n->Sz Q (ldA (mtx E n) k i j)
def ldF{m Q:J}(hs:∀i,i<n*n->Sz m (E i))(hQ1:3^n*bnd n m+bnd n m<=Q)(sy:A7o n (mtx E n))(hk:k<=n)(ok:∀m,m<k->Xr (mtx E n) n m):LdF E n k Q:=by have rel:=A4y E (rows:=n) (cols:=n) hk;have R:=B40 sy hk ok;have r:=R.len;have z:=A8u (E:=E) (rows:=n) (cols:=n) (c:=k) hs hk;have l:1<=bnd n m:=by{unfold bnd;omega};have u:3^(elP E n n k).cs.length*bnd n m<=3^n*bnd n m:=aO _ (bN dc z.len);have s:=C8y sy k hk ok;have val:∀i j,k<=i->i<n->j<n->((elP E n n k).M i j:Y)=(elP E n n k).last*(Xt E n i*ldA (mtx E n) k i j):=fun i j p d f=>by{rw[rel.val i j d f,iN o,R.low i j p d f,s i p d]};have q:∀a,a<n->Sz (bnd n m) (Xt E n a):=fun a g=>A65 fun j f=>hs _ (V5 g f);refine⟨val,rel.last,fun a b g t=>(z.M a b g t).mono o,z.last.mono o,fun a g=>(q a g).mono o,fun i j p d f=>?_⟩;have e:ldA (mtx E n) k i j=cU ((elP E n n k).M i j) (elP E n n k).last/Xt E n i:=by{have w:=Tv E n i;rw[Rat.divInt_eq_div,val i j p d f,C8m (T3 rel.last) gz0]};rw[e];exact((N4 rel.last (z.M i j d f) z.last).div (q i d) l).mono o
end
def B0d(A:J->J->Y)(n k:J):J->Y:=fun t=>if t%n<k then ldL A (t/n) (t%n)else 0
def B0s(A:J->J->Y)(k:J):J->Y:=fun j=>if j<k then ldD A j else 0
structure Ld (h g o:aE) (be bl bd:J) (T:Tb) (E:J->Y) (n k:J) (M:J->J->Z) (w:IV) (Lf Df:J->Y):Prop where
 e:El h g o be T M (Xt E n) n k w (elP E n n k).last (.slice (some ⟨bl,0,none⟩) (n*n) (n*n)) (.slice (some ⟨bd,0,none⟩) n n)
 m:∀ i j,k<=i->i<n->j<n->M i j=(elP E n n k).M i j
 l:QB g o bl (n*n) Lf
 d:QB g o bd n Df
 tl:¬ onT T bl
 td:¬ onT T bd
 el:be≠bl
 ed:be≠bd
 ld:bl≠bd
section
variable {h g o:aE} {be bl bd:J} {T:Tb} {E:J->Y} {n k:J} {M:J->J->Z} {w:IV} {Lf Df:J->Y} {K:VP} {Q:J}
def Ld.next(X:Ld h g o be bl bd T E n k M w Lf Df){h' g':aE}(s:Sep h' g' o)(l:g.le g'):Ld h' g' o be bl bd T E n k M w Lf Df:=⟨X.e.next s l,X.m,X.l.ko l rfl,X.d.ko l rfl,X.tl,X.td,X.el,X.ed,X.ld⟩
def Ld.congr(X:Ld h g o be bl bd T E n k M w Lf Df){Lf' Df':J->Y}(e1:∀i,i<n*n->Lf i=Lf' i)(e2:∀i,i<n->Df i=Df' i):Ld h g o be bl bd T E n k M w Lf' Df':=⟨X.e,X.m,X.l.congr e1,X.d.congr e2,X.tl,X.td,X.el,X.ed,X.ld⟩
def Ld.storeL(X:Ld h g o be bl bd T E n k M w Lf Df){i:J}(hi:i<n*n){v:QV}{z:Y}(hv:RQ g v z){K:Unit->aE->Prop} (x:∀h' o',Ld h' g o' be bl bd T E n k M w (fun a=>if a=i then z else Lf a) Df->K () h'):wpH prog (aZ 143 (.pointer (some (aH ⟨bl,0,none⟩ (i*4)))) v.v) K h:=by refine X.l.store X.e.t.sep hi hv ?_;intro h' o' b q ko;exact x h' o' ⟨X.e.away b X.tl X.el ko,X.m,q,X.d.ko (B8 _) (ko _ X.ld.symm),X.tl,X.td,X.el,X.ed,X.ld⟩
def Ld.storeD(X:Ld h g o be bl bd T E n k M w Lf Df){i:J}(hi:i<n){v:QV}{z:Y}(hv:RQ g v z){K:Unit->aE->Prop} (x:∀h' o',Ld h' g o' be bl bd T E n k M w Lf (fun a=>if a=i then z else Df a)->K () h'):wpH prog (aZ 143 (.pointer (some (aH ⟨bd,0,none⟩ (i*4)))) v.v) K h:=by refine X.d.store X.e.t.sep hi hv ?_;intro h' o' b q ko;exact x h' o' ⟨X.e.away b X.td X.ed ko,X.m,X.l.ko (B8 _) (ko _ X.ld),q,X.tl,X.td,X.el,X.ed,X.ld⟩
def Ld.at(X:Ld h g o be bl bd T E n k M w Lf Df)(gl:Gl g)(F:LdF E n k Q){i j:J}(hk:k<=i)(hi:i<n)(hj:j<n)(hQ1:1<=Q)(hQ:Q<=6400000000) (hK:∀w' h' g',g.le g'->Sep h' g' o->h.le h'->RQ g' w' (ldA (mtx E n) k i j)->K w'.v h'):aN prog 282 #[.pointer (some ⟨be,0,none⟩),I (i:Z),I (j:Z)] h K:=by have a:=X.m i j hk hi hj;have f:=Tv E n i;refine C20 (m:=Q) X.e gl hi hj (by rw[a];exact F.zM i j hi hj) F.zl (F.zS i hi) (by rw[a];exact N4 F.last (F.zM i j hi hj) F.zl) hQ1 hQ ?_;intro w' h' g' d s c b;refine hK w' h' g' d s c ?_;rw[a,Rat.divInt_eq_div,F.val i j hk hi hj,C8m (T3 F.last) gz0]at b;exact b
def Ld.partner(X:Ld h g o be bl bd T E n k M w Lf Df)(F:LdF E n k Q)(hk:k<n)(hn:n<=10000):aN prog 283 #[.pointer (some ⟨be,0,none⟩)] h (fun r h'=>h'=h/\∃(a:J) (b:Bool),r= .tuple #[I (a:Z),.bool b]/\(b=true->k<a/\a<n/\ldA (mtx E n) k a k≠0)/\(b=false->∀j,k<j->j<n->ldA (mtx E n) k j k=0)):=by have key:∀i,k<=i->i<n->(M i k=0↔ldA (mtx E n) k i k=0):=fun i c p=>by{have q:=F.val i k c p hk;have l:=T3 F.last;have t:Xt E n i≠0:=by{have:=Tv E n i;grind};rw[X.m i k c p hk];constructor;{intro e;rw[e]at q;grind};·intro e;simp_all};refine A42 X.e hk hn (fun i f d l=>⟨rfl,i,true,rfl,fun _=>⟨f,d,fun e=>l ((key i oo d).2 e)⟩,fun e=>by cases e⟩) (fun s=>⟨rfl,0,false,rfl,(fun e=>by cases e),fun _ j f d=>(key j oo d).1 (s j f d)⟩)
end
def C36{q:Y}:q.num.sign<0↔q<0:=by have a:=Rat.num_nonneg (q:=q);grind
def A51{n i j:J}(hj:j<n):(i*n+j)/n=i/\(i*n+j)%n=j:=by refine⟨?_,?_⟩;{rw[bU,Nat.mul_add_div o,Nat.div_eq_of_lt hj,Nat.add_zero]};·rw[bU,Nat.mul_add_mod,Nat.mod_eq_of_lt hj]
def C1c(A:J->J->Y)(n k i:J):J->Y:=fun t=>if t%n=k/\t/n<i then ldL A (t/n) k else B0d A n k t
def A8h(A:J->J->Y){n k i:J}(h:i=n\/ldA A k k k=0/\k<i):∀t,t<n*n->C1c A n k i t=B0d A n (k+1) t:=by intro t a;unfold C1c B0d;have b:t/n<n:=bC a;by_cases c:t%n=k;{by_cases c2:t/n<i;{grind};·rcases h with h|⟨e,d⟩;{omega};·unfold ldL;grind};grind
def B4f(A:J->J->Y)(k:J):(fun a=>if a=k then ldA A k k k else B0s A k a)=B0s A (k+1):=by funext a;unfold B0s ldD;grind
section
variable {h:aE} {A:Option aF} {E:J->Y} {n cap m Q:J} {K:VP}
def Yl(gl:Gl h)(rq:aP RQr h A (n*n) E)(hcap:n*n<=cap)(hn1:1<=n)(hn:n<=64)(sy:A7o n (mtx E n))(hs:∀i,i<n*n->Sz m (E i))(hQ1:3^n*bnd n m+bnd n m<=Q)(hQ:2*Q+1<=100000000)
 (hK1:(∀k,k<n->Xr (mtx E n) n k)->∀h' g' o' be bl bd T M w,h.le h'->h.le g'->Ld h' g' o' be bl bd T E n n M w (B0d (mtx E n) n n) (B0s (mtx E n) n)->K (.tuple #[.pointer (some ⟨be,0,none⟩),.bool true]) h')
 (hK0:∀k,k<n->(∀k',k'<k->Xr (mtx E n) n k')->¬Xr (mtx E n) n k->∀h' g' o' be bl bd T M w,h.le h'->h.le g'->Ld h' g' o' be bl bd T E n k M w (B0d (mtx E n) n k) (B0s (mtx E n) k)->K (.tuple #[.pointer (some ⟨be,0,none⟩),.bool false]) h'):aN prog 235 #[.slice A (n*n) cap,I (n:Z)] h K:=by
 have ai:n*n<=64*64:=aK hn hn;have bo:bnd n m=1+n*m+m:=rfl;refine(fnk func235 [(6,[7,29],[],[.bool false,I 0]),(17,[12],[],[I 0])] (cs:=[(12,[7],[],[.bool false])]) (os:=[(19,[0,1,2,3,4,5,6,7,8,9,10,11,13,12,14,15,16])]) (own:=[9]) (wr:=[285])) ?_;refine(fnk func281 (wr:=[1000000000])) ?_;refine Ox (m:=m) gl rq hcap hn1 o hn1 o hs o ?_;intro h1 g1 o1 T a0 t1 er ec;refine⟨_,rfl,?_⟩;refine t1.sep.call (O0 dc dc ?_);intro s2 A2 n2 c2 g2 l2 i2 h2 a5;have t2:=t1.next a5 l2;refine⟨_,_,_,_,rfl,Ru ?_⟩;intro be u
 have fr:∀{O gg oo:aE} {k x b},Sep O gg oo->oo k=some x->O b=none->k≠b:=by
  rintro O gg oo k x b s e G rfl;rw[s.own k x e]at G;cases G
 obtain⟨⟨y1,z1⟩,⟨y2,z2⟩,⟨y3,z3⟩⟩:=t2.own
 have q:∀{O gg oo:aE} {b},Tab O gg oo T (A66 E n) (Xt E n)->O b=none->¬onT T b:=by
  intro O gg oo b t G g;obtain⟨⟨y1,z1⟩,⟨y2,z2⟩,⟨y3,z3⟩⟩:=t.own;rcases g with rfl|rfl|rfl;·exact fr t.sep z1 G rfl
  ·exact fr t.sep z2 G rfl
  ·exact fr t.sep z3 G rfl
 have s3:=t2.sep.new u (.cells (Value.agg #[I (n:Z),I (0:Z),.pointer (some ⟨T.bt,0,none⟩),.bool s2,.slice A2 n2 c2,.slice none 0 0,.slice none 0 0]).cells 333);have X3:El _ g2 _ be T (A66 E n) (Xt E n) n 0 ⟨s2,A2,n2,c2⟩ 1 (.slice none 0 0) (.slice none 0 0):=⟨t2.keep s3 (B8 _) (fun k x e _=>by rw[C1 _ _ (fr t2.sep e u)];exact e),er,ec,⟨333,C3 _ _ _⟩,q t2 u,i2⟩;refine⟨_,rfl,_,rfl,?_⟩;generalize (h2.put be (.cells (Value.agg #[I (n:Z),I (0:Z),.pointer (some ⟨T.bt,0,none⟩),.bool s2,.slice A2 n2 c2,.slice none 0 0,.slice none 0 0]).cells 333))=h3 at *;generalize (o1.put be (.cells (Value.agg #[I (n:Z),I (0:Z),.pointer (some ⟨T.bt,0,none⟩),.bool s2,.slice A2 n2 c2,.slice none 0 0,.slice none 0 0]).cells 333))=o3 at *;have a4:h.le g2:=B6 a0 l2;have ay:C4 ((n:Z)*(n:Z))=((n*n:J):Z):=by exact O5 o
 rw[ay];have B:∀{O gg oo M k w z L D},El O gg oo be T M (Xt E n) n k w z L D->∃x,oo be=some x:=fun X=>by obtain⟨e,he⟩:=X.hd;grind
 refine G7 A0k (zx:=U1) rfl o o o o ?_;intro bl R;refine⟨_,_,_,rfl,_,rfl,?_⟩;have H:be≠bl:=by obtain⟨x,g⟩:=B X3;exact fr X3.t.sep g R
 have X4:=X3.away (X3.t.sep.new R (.cells ((aU (n*n) U1).flatMap enc).toArray 143)) (q X3.t R) H (fun y hy=>C1 _ _ hy);have q4:QB g2 (o3.put bl (.cells ((aU (n*n) U1).flatMap enc).toArray 143)) bl (n*n) (fun _=>0):=⟨_,RowX.mk,cI,fun i hi=>⟨U1,gz0,RQ.zero⟩⟩;have tl:=q X3.t R;refine X4.set (n':=n) (k':=0) (w':=⟨s2,A2,n2,c2⟩) (z':=1) (L':=.slice (some ⟨bl,0,none⟩) (n*n) (n*n)) (D':=.slice none 0 0) (vs:=[.slice (some ⟨bl,0,none⟩) (n*n) (n*n)]) B33 rfl rfl (by intro x g;simp only[bM,bH,or_false]at g;subst g;rfl) o rfl X4.last rfl ?_;intro h5 o5 X5 a3;have q5:=q4.ko (B8 _) (a3 _ H.symm);refine G7 A0k (zx:=U1) rfl o o o o ?_;intro bd N;refine⟨_,_,_,rfl,_,rfl,?_⟩;have ah:be≠bd:=by obtain⟨x,g⟩:=B X5;exact fr X5.t.sep g N
 have ap:bl≠bd:=by obtain⟨xs,⟨e,g⟩,_⟩:=q5;exact fr X5.t.sep g N
 have td:=q X5.t N;have X6:=X5.away (X5.t.sep.new N (.cells ((aU n U1).flatMap enc).toArray 143)) td ah (fun y hy=>C1 _ _ hy);have d6:QB g2 (o5.put bd (.cells ((aU n U1).flatMap enc).toArray 143)) bd n (fun _=>0):=⟨_,RowX.mk,cI,fun i hi=>⟨U1,gz0,RQ.zero⟩⟩;have q6:=q5.ko (o':=o5.put bd (.cells ((aU n U1).flatMap enc).toArray 143)) (B8 _) (C1 _ _ ap);refine X6.set (n':=n) (k':=0) (w':=⟨s2,A2,n2,c2⟩) (z':=1) (L':=.slice (some ⟨bl,0,none⟩) (n*n) (n*n)) (D':=.slice (some ⟨bd,0,none⟩) n n) (vs:=[.slice (some ⟨bd,0,none⟩) n n]) B33 rfl rfl (by intro x g;simp only[bM,bH,or_false]at g;subst g;rfl) o rfl X6.last rfl ?_;intro h7 o7 X7 ao;have X0:Ld h7 g2 o7 be bl bd T E n 0 (A66 E n) ⟨s2,A2,n2,c2⟩ (B0d (mtx E n) n 0) (B0s (mtx E n) 0):=⟨X7,fun _ _ _ _ _=>rfl,(q6.ko (B8 _) (ao _ H.symm)).congr (fun i _=>by rfl),(d6.ko (B8 _) (ao _ ah.symm)).congr (fun i _=>by rfl),tl,td,H,ah,ap⟩;have V:1<=Q:=o
 have ix:∀{i j:J},i<n->j<n->C4 (C4 ((i:Z)*(n:Z))+(j:Z))=((i*n+j:J):Z):=fun {i j} hi hj=>by
  have:=V5 hi hj;rw[<- cH,O5 o];exact O5 (n:=i*n+j) o
 have ae:∀{i:J},i<n->C4 ((i:Z)+1)=((i+1:J):Z):=fun {i} hi=>by rw[C0]<;>omega
 refine⟨fun L hq=>∃(k:J) (g' o':aE) (M:J->J->Z) (w:IV),k<=n/\L=[.bool true,I (k:Z)]/\h.le g'/\(∀k',k'<k->Xr (mtx E n) n k')/\Ld hq g' o' be bl bd T E n k M w (B0d (mtx E n) n k) (B0s (mtx E n) k),fun L _=>n-(iAt L 1).toNat,⟨0,g2,o7,_,_,o,rfl,a4,fun k' ac=>o,X0⟩,?_⟩;rintro a9 z5 hq ⟨k,g',o',M,w,hk,eL,lg,ok,X⟩;obtain⟨rfl,rfl⟩:=eL
 refine B9 (fun am=>?_) (fun bk=>by
  have:k=n:=o;subst this;exact hK1 ok hq g' o' be bl bd T M w (B6 lg X.e.t.sep.le) lg X);have f:k<n:=o;have F:=ldF hs hQ1 sy hk ok;refine X.at (gl.mono lg) F (aC _) f f V o ?_;intro w1 h1 g1 l1 s1 bn i1;refine⟨_,_,_,_,_,_,_,_,rfl,?_⟩;have X1:=X.next s1 l1;have p:h.le g1:=B6 lg l1;refine FCall.mono (X1.partner F f o) ?_;rintro r W ⟨rfl,a,b,rfl,a7,aw⟩;have an:RQ W w1 (ldA (mtx E n) k k k):=H2 _ _ _ _ s1.le i1;refine⟨_,_,rfl,fun L g=>L=[.bool true]/\g=W/\Xr (mtx E n) n k,?_,?_⟩
 ·refine Dn an ⟨_,rfl,B9 (fun al=>?_) (fun ba=>?_)⟩
  ·have aq:=C36.1 al;exact hK0 k f ok (fun x=>absurd x.1 gz0) W g1 o' be bl bd T M w (B6 p s1.le) p X1
  ·have ai:0<=ldA (mtx E n) k k k:=by
    simp_all
   refine Bv an ⟨_,rfl,B9 (fun e0=>?_) (fun S=>⟨rfl,rfl,ai,fun e=>absurd e S⟩)⟩
   cases b with
   |true=>
    obtain⟨b1,b2,b3⟩:=a7 rfl;exact hK0 k f ok (fun x=>b3 (x.2 e0 a b1 b2)) W g1 o' be bl bd T M w (B6 p s1.le) p X1
   |false=>exact⟨rfl,rfl,ai,fun _ j c1 c2=>aw rfl j c1 c2⟩
 rintro p1 g ⟨eL,rfl,bi⟩;simp only[aQ,Value.bool.injEq,and_true]at eL;subst eL
 have af:∀k',k'<=k->Xr (mtx E n) n k':=fun k' ac=>by
  grind
 refine⟨_,rfl,_,_,_,X1.e.c5,?_⟩;refine s1.call (Gw o ?_);intro w2 g3 l3 i3 h4 s4;refine⟨_,_,_,_,_,_,_,_,rfl,s1.le_le s4 l3,_,rfl,?_⟩;rw[ix f f];have X2:=X1.next s4 l3;have ar:=V5 f f;refine⟨o,o,?_⟩;refine X2.storeL ar (z:=1) i3 ?_;intro h5 o5 X5;refine⟨_,rfl,_,_,_,X5.e.c6,_,rfl,o,o,?_⟩;have ag:RQ g3 w1 (ldA (mtx E n) k k k):=H2 _ _ _ _ l3 i1;refine X5.storeD f ag ?_;intro h6 o6 X6
 have X7:Ld h6 g3 o6 be bl bd T E n k M w (C1c (mtx E n) n k (k+1)) (B0s (mtx E n) (k+1)):=X6.congr (fun t ht=>by
  show(if t=k*n+k then 1 else B0d (mtx E n) n k t)=_;unfold C1c;have dm:=Nat.div_add_mod t n;by_cases c:t=k*n+k
  ·obtain⟨d1,d2⟩:=A51 (i:=k) f;rw[iP c,c,d1,d2,iP ⟨rfl,o⟩,C1e]
  ·rw[iN c];by_cases c2:t%n=k/\t/n<k+1
   ·have am:t/n<k:=by
     grind
    rw[C1f am];unfold B0d;grind
   ·rw[iN c2]) (fun t _=>by rw[<- B4f]);have aj:h.le g3:=B6 p l3;refine Bv (H2 _ _ _ _ X7.e.t.sep.le ag) ⟨_,rfl,B9 (fun e0=>?_) (fun S=>?_)⟩
 ·refine⟨_,rfl,_,X7.e.c1,_,rfl,?_⟩;rw[ae f];refine X7.e.set (n':=n) (k':=k+1) (w':=w) (z':=(elP E n n k).last) (L':=.slice (some ⟨bl,0,none⟩) (n*n) (n*n)) (D':=.slice (some ⟨bd,0,none⟩) n n) (vs:=[I ((k+1:J):Z)]) B34 rfl rfl (by intro x g;simp only[bM,bH,or_false]at g;subst g;rfl) o rfl X7.e.last rfl ?_;intro h8 o8 yq9 ko;have es:=A8w sy f af e0;refine⟨⟨k+1,g3,o8,M,w,o,rfl,aj,fun k' ac=>af k' o,⟨gz0,fun i j a b c=>by rw[es];exact X7.m i j o b c,(X7.l.ko (B8 _) (ko _ X7.el.symm)).congr (A8h _ (.inr ⟨e0,o⟩)),X7.d.ko (B8 _) (ko _ X7.ed.symm),X7.tl,X7.td,X7.el,X7.ed,X7.ld⟩⟩,?_⟩;show n-((k+1:J):Z).toNat<n-((k:J):Z).toNat;omega
 rw[ae f];refine⟨fun L g=>∃(i:J) (g4 o4:aE),k<i/\i<=n/\L=[I (i:Z)]/\g3.le g4/\Ld g g4 o4 be bl bd T E n k M w (C1c (mtx E n) n k i) (B0s (mtx E n) (k+1)),fun L _=>n-(iAt L 0).toNat,⟨k+1,g3,o6,o,o,rfl,B8 _,X7⟩,?_⟩;rintro z6 g ⟨i,g4,o4,bg,bf,eL,l4,X8⟩;obtain rfl:z6=(i:Z):=gz0;have ad:h.le g4:=B6 aj l4;refine B9 (fun bc=>?_) (fun bb=>?_)
 ·have C:i<n:=o;refine⟨_,rfl,_,_,_,X8.e.c5,?_⟩;refine X8.at (gl.mono ad) F o C f V o ?_;intro w9 h9 g9 l9 s9 a8 i9;refine⟨_,_,_,_,_,_,_,_,rfl,a8,?_⟩;refine s9.call (Zd (m:=Q) (gl.mono (B6 ad l9)).tz i9 (H2 _ _ _ _ (B6 l4 l9) ag) (F.zA i k o C f) (F.zA k k (aC _) f f) V o ?_);intro bj az aa a1 bh ak;refine⟨_,_,_,_,_,_,_,_,rfl,s9.le_le ak aa,_,rfl,?_⟩;rw[ix C f];have a6:=V5 C f;refine⟨o,o,?_⟩;refine((X8.next s9 l9).next ak aa).storeL a6 a1 ?_;intro bm ax X11;rw[ae C];refine⟨⟨i+1,az,ax,o,o,rfl,B6 l4 (B6 l9 aa),X11.congr (fun t ht=>?_) (fun _ _=>rfl)⟩,by simp only[U4];omega⟩;show(if t=i*n+k then ldA (mtx E n) k i k/ldA (mtx E n) k k k else C1c (mtx E n) n k i t)=_;unfold C1c;have dm:=Nat.div_add_mod t n;by_cases c:t=i*n+k
  ·obtain⟨d1,d2⟩:=A51 (i:=i) f;rw[iP c,c,d1,d2,iP ⟨rfl,o⟩];unfold ldL;rw[iN o,iN o,iN S]
  ·by_cases c2:t%n=k/\t/n<i;·grind
   ·grind
 ·have a2:i=n:=o;subst a2;refine A5f (m:=Q) X8.e f o F.last (fun a b ka ha G=>by rw[X8.m a b ka ha G];exact F.zM a b ha G) F.zl V hQ ?_;intro h9 g9 o9 w9 l9 yq9 ko;obtain⟨au,av,_⟩:=A8v sy f ok S;refine⟨rfl,⟨k+1,g9,o9,_,w9,o,rfl,B6 ad l9,fun k' ac=>af k' o,⟨by rw[av,<- X8.m k k (aC _) f f];exact yq9,fun i j a b c=>?_,(X8.l.ko l9 (ko _ X8.tl X8.el.symm)).congr (A8h _ (.inl rfl)),X8.d.ko l9 (ko _ X8.td X8.ed.symm),X8.tl,X8.td,X8.el,X8.ed,X8.ld⟩⟩,?_⟩;·rw[iP (show k<i from o),au i j o b,X8.m k k (aC _) f f,X8.m i j o b c,X8.m i k o b f,X8.m k j (aC _) f c]
  ·show i-((k+1:J):Z).toNat<i-((k:J):Z).toNat;omega
end
def ns(f:J->J):J->J
 |0=>0
 |n+1=>ns f n+f n
def C9b(A:J->J->Y)(n k:J)(v:J->Y):Prop:=(v k=1/\(∀i,k<i->i<n->v i=0)/\ldA A k k k<0)\/ (∃p,k<p/\p<n/\v p=1/\(∀i,k<i->i<n->i≠p->v i=0)/\ldA A k k k=0/\ldA A k p k≠0/\v k=(ldA A k p p+1)/(ldA A k p k * -2))
def C8q(n k Q:J):J:=(n-k)*(2*Q+2)+4*Q+10
structure Wv (E:J->Y) (n k Q t:J) (v:J->Y) (s:J->J):Prop where
 seed:C9b (mtx E n) n k v
 low:∀ i,i<t->v i=0
 zero:∀ m,t<=m->m<k->sm n (fun i=>ldL (mtx E n) i m*v i)=0
 sz:∀ i,i<n->Sz (s i) (v i)
 tot:ns (fun i=>if i<t then 0 else 2*Q+1+s i) n+(2*Q+2)<=2^(k-t)*C8q n k Q
def C23:Sz 1 (1:Y):=(⟨ZB.one (aC 1),ZB.one (aC 1)⟩:Sz 1 1)
def C55{E:J->Y}{n Q m:J}(F:LdF E n m Q)(hm:m<n)(hQ:1<=Q){i:J}(hi:i<n):Sz (2*Q) (ldL (mtx E n) i m):=by unfold ldL;by_cases c:i=m;{rw[iP c];exact C23.mono o};·rw[iN c];by_cases c2:i<m;{rw[iP c2];exact(Sz.zero (aC 1)).mono o};·rw[iN c2];split;{exact(Sz.zero (aC 1)).mono o};·exact((F.zA i m o hi hm).div (F.zA m m (aC _) hm hm) hQ).mono o
section
variable {h g o:aE} {be bl bd bv:J} {T:Tb} {E:J->Y} {n k Q W m:J} {M:J->J->Z} {w:IV} {K:VP}
structure Lv (h g o:aE) (be bl bd bv:J) (T:Tb) (E:J->Y) (n k:J) (M:J->J->Z) (w:IV) (v:J->Y):Prop where
 x:Ld h g o be bl bd T E n k M w (B0d (mtx E n) n k) (B0s (mtx E n) k)
 q:QB g o bv n v
 t:¬ onT T bv
 e:be≠bv
 l:bl≠bv
 d:bd≠bv
end
def SymT(q:J)(ls:J->dC UInt8):Prop:=∀i j,i<q->j<i->ls (i*q+j)=ls (j*q+i)
def SqOk(r c:Z)(n:J)(ls:J->dC UInt8)(q:J):Prop:=MOk r c n ls q q/\SymT q ls
def SqE(r c:Z)(n:J)(ls:J->dC UInt8)(e:Z):Prop:=(¬Mx r c n ls/\e=1)\/(Mx r c n ls/\(¬∃q,SqOk r c n ls q)/\e=4)
def SymT.symm{q:J}{ls:J->dC UInt8}(h:SymT q ls):A7o q (mtx (rvs ls) q):=fun i j b a=>by show rv (ls (i*q+j))=rv (ls (j*q+i));rcases Nat.lt_trichotomy i j with c|c|c;{rw[h j i a c]};{rw[c]};·rw[h i j b c]
section
variable {h:aE} {K:VP} {A:Option aF} {n cap m:J} {r c:Z} {ls:J->dC UInt8}
def MOk.sq{q q':J}(mk:MOk r c n ls q q')(e:r=c):q=q':=by have:=mk.er;have:=mk.ec;omega
def B0n(gl:Gl h)(rv':aP SSr h A n ls)(hn:n<=1000000)(hl:∀i,i<n->(ls i).length<=140737488351232) (hK1:∀q,SqOk r c n ls q->∀b h',Own RQr h h' b (q*q) (rvs ls)->K (.tuple #[.slice (some ⟨b,0,none⟩) (q*q) (q*q),I 0]) h') (hK0:∀e,SqE r c n ls e->∀h',h.le h'->K (.tuple #[.slice none 0 0,I e]) h'):aN prog 234 #[Lj r c A n cap] h K:=by refine(fnk func234 [(7,[22],[],[I 0]),(10,[26],[],[I 0])] (own:=[1])) ?_;refine Z7 gl rv' hn hl ?_ (fun s k l1=>⟨_,_,_,_,rfl,hK0 1 (.inl ⟨s,rfl⟩) k l1⟩);intro q q' mk b k own;refine⟨_,_,_,_,rfl,?_⟩;show Br _ _ _;refine D8 (fun f=>hK0 4 (.inr ⟨⟨_,_,mk⟩,(fun⟨a,x,_⟩=>f (by have:=x.er;have:=x.ec;omega)),rfl⟩) k own.le) (fun t=>?_);obtain rfl:=mk.sq t;have:=mk.r2;obtain⟨rfl,rfl,_,_,_,_,rfl,R⟩:=id mk;have H:aP SSr k A (q*q) ls:=rv'.mono F1 own.le;have W:q*q<=64*64:=aK o o;have M:∀{i j:J},i<q->j<q->C4 (C4 ((i:Z)*(q:Z))+(j:Z))=((i*q+j:J):Z):=fun {i j} m p=>by{have:=V5 m p;rw[<- cH,O5 o];exact O5 (n:=i*q+j) o};have w:∀{i j:J},i<q->j<i->ls (i*q+j)≠ls (j*q+i)->¬∃a,SqOk (q:Z) (q:Z) (q*q) ls a:=by{rintro i j m p f ⟨a,x,y⟩;obtain rfl:a=q:=by{have:=x.er;omega};exact f (y i j m p)};refine⟨fun L l=>∃i:J,i<=q/\L=[I (i:Z)]/\l=k/\∀a b,a<i->b<a->ls (a*q+b)=ls (b*q+a),fun L _=>q-(iAt L 0).toNat,⟨0,o,rfl,rfl,fun a b Q=>o⟩,?_⟩;rintro z l ⟨i,m,C,rfl,G⟩;obtain rfl:=sI1 C;refine B9 (fun V=>?_) (fun T=>hK1 q ⟨mk,fun a b Q g=>G a b o g⟩ b l own);have d:i<q:=o;refine⟨fun L D=>∃j:J,j<=i/\L=[I (j:Z)]/\D=l/\∀b,b<j->ls (i*q+b)=ls (b*q+i),fun L _=>i-(iAt L 0).toNat,⟨0,o,rfl,rfl,fun b g=>o⟩,?_⟩;rintro z2 D ⟨j,p,C,rfl,E⟩;obtain rfl:=sI1 C;refine B9 (fun N=>?_) (fun F=>?_);{have B:j<i:=o;have i1:=V5 d (show j<q from o);have X:=V5 (show j<q from o) d;obtain⟨u,rfl,hc⟩:=H.sat i1;obtain⟨u',O,S⟩:=H.sat X;simp only[Option.some.injEq]at O;subst O;rw[M d (show j<q from o),M (show j<q from o) d];refine⟨_,rfl,o,o,_,hc,_,rfl,o,o,_,S,?_⟩;dsimp only;rw[Ib];refine Br.not (B9 (fun e=>?_) (fun e=>hK0 4 (.inr ⟨⟨_,_,mk⟩,w d B e,rfl⟩) D own.le));rw[wiS j o];refine⟨⟨j+1,o,rfl,rfl,fun b g=>?_⟩,by simp only[U4];omega⟩;by_cases c:b=j;{rw[c];exact e};·exact E b o};·rw[wiS i o];refine⟨⟨i+1,o,rfl,rfl,fun a b Q g=>?_⟩,by simp only[U4];omega⟩;by_cases c:a=i;{rw[c];exact E b o};·exact G a b o g
structure FacV (h:aE) (q:J) (A1:Option aF) (A2:Option aF) (E:J->Y):Prop where
 l:aP SSr h A1 (q*q) (fun t=>E7 (B0d (mtx E q) q q t))
 d:aP SSr h A2 q (fun t=>E7 (B0s (mtx E q) q t))
def A53{Q:J}(gl:Gl h)(rv':aP SSr h A n ls)(hn:n<=1000000)(hl:∀i,i<n->(ls i).length<=140737488351232)(hs:∀i,i<n->Sz m (rv (ls i)))(hb:∀q,MOk r c n ls q q->3^q*bnd q m+bnd q m<=Q)(hQ:Q<=20000000) (hK1:∀q,SqOk r c n ls q->(∀k,k<q->Xr (mtx (rvs ls) q) q k)->∀b1 b2 h',h.le h'->FacV h' q (some ⟨b1,0,none⟩) (some ⟨b2,0,none⟩) (rvs ls)->K (.tuple #[.agg #[I r,I c,.slice (some ⟨b1,0,none⟩) (q*q) (q*q),.slice (some ⟨b2,0,none⟩) q q],.bool true,I 0]) h') (hK2:∀q,SqOk r c n ls q->(¬∀k,k<q->Xr (mtx (rvs ls) q) q k)->∀h',h.le h'->K (.tuple #[.agg #[I 0,I 0,.slice none 0 0,.slice none 0 0],.bool false,I 0]) h') (hK0:∀e,SqE r c n ls e->∀h',h.le h'->K (.tuple #[.agg #[I 0,I 0,.slice none 0 0,.slice none 0 0],.bool false,I e]) h'):aN prog 168 #[Lj r c A n cap] h K:=by refine(fnk func168 (os:=[(7,[0,1,2,3,4,5,6,7,10,8,9,11])]) (own:=[1,2,9])) ?_;refine B0n gl rv' hn hl ?_ (fun e G E l1=>⟨_,_,_,_,rfl,D8 (fun _=>hK0 e G E l1) (fun e0=>by rcases G with⟨_,x⟩|⟨_,_,x⟩<;>omega)⟩);intro q sq b E own;obtain⟨mk,st⟩:=id sq;have g:=hb q mk;obtain⟨rfl,rfl,_,_,_,_,rfl,H⟩:=id mk;refine⟨_,_,_,_,rfl,D8 (fun y=>absurd rfl y) (fun _=>?_)⟩;refine Yl (Q:=Q) (gl.mono own.le) (own.vis H2) (aC _) o o st.symm hs g o ?_ ?_;{intro ok z R V W N bd T M w s O X;have D:1<=Q:=by{unfold bnd at g;omega};have F:=fun k (B:k<=q)=>ldF hs g st.symm B fun m C=>ok m o;refine⟨_,_,rfl,?_⟩;show Br false _ _;refine⟨_,rfl,_,_,_,X.e.c5,?_⟩;have p:Gl z:=gl.mono (B6 own.le s);refine U8 (m:=2*Q) p (X.l.rowV X.e.t.sep) o (fun i j=>?_) o ?_;{unfold B0d;have C:i%q<q:=cV _ o;rw[iP C];exact C55 (F _ o) C D (bC j)};intro L h3 a;refine⟨_,_,_,rfl,a.le,_,rfl,_,_,_,C2 a.le X.e.c6,?_⟩;refine U8 (m:=Q) (p.mono a.le) ((X.d.rowV X.e.t.sep).mono H2 a.le) o (fun i j=>?_) o ?_;{unfold B0s ldD;rw[iP j];exact(F i o).zA i i (aC _) j j};intro b4 S f;exact⟨_,_,_,rfl,f.le,hK1 q sq ok L b4 S (B6 (B6 own.le s) (B6 a.le f.le)) ⟨(a.vis F1).mono F1 f.le,f.vis F1⟩⟩};·intro k B ok u z R V W N bd T M w s O X;refine⟨_,_,rfl,?_⟩;show Br true _ _;exact hK2 q sq (fun x=>u (x k B)) z (B6 own.le s)
end
abbrev E4:J->Y:=fun i=>([4,2,2,1]:dC Y).getD i 0
abbrev E0:J->Y:=fun i=>([0,1,1,0]:dC Y).getD i 0
section
variable {h:aE} {A:Option aF} {n cap:J} {r c:Z} {ls:J->dC UInt8}
end
section
variable {h:aE} {K:VP} {A B:Option aF} {n n2 cap cap2 m w cols:J} {r c r2 c2:Z} {la lb:J->dC UInt8} {P Q:J->J->Y}
end
def inR(bo:J)(rb:J->J)(n x:J):Prop:=x=bo\/∃i,i<n/\x=rb i
section
variable {h:aE} {K:VP} {n:J}
end
structure Gd (h g o:aE) (ba:J) (ra:J->J) (bl:J) (rl:J->J) (n:J) (P L:J->J->Y) (A:Option aF) (c k:J) (D:J->Y):Prop where
 a:Mt h g o ba ra n n P
 l:Mt h g o bl rl n n L
 d:∃ xs:dC QV,OwnSl o 48 A c xs/\xs.length=k/\Row NQr g xs k D
 al:∀ x,inR ba ra n x->¬ inR bl rl n x
 ad:∀ x,A=some ⟨x,0,none⟩->¬ inR ba ra n x/\¬ inR bl rl n x
section
variable {h g o:aE} {ba bl n c k:J} {ra rl:J->J} {P L:J->J->Y} {A:Option aF} {D:J->Y}
end
section
variable {h:aE} {K:VP} {A:Option aF} {n cap Q:J} {E:J->Y}
end
section
variable {h:aE} {K:VP} {A B lA cA:Option aF} {n ln lc cn cc cap cap2 m m2:J} {ls cs:J->dC UInt8} {R:J->J->Y} {f:J->Y}
end
end Go.Proofs.YteppbhimdjmabaaGreatDoor
namespace Go.Proofs.YteppbhimdjmabaaGreatDoor
set_option maxRecDepth 20000
def ev(n:J)(f x:J->Y):Y:=sm n fun j=>f j*x j
structure Diag (n:J) (A:J->J->Y) (d:J->Y) (F:J->J->Y):Prop where
 val:∀ x,qf n A x=sm n fun m=>d m*(ev n (F m) x*ev n (F m) x)
 inj:∀ x,(∀ m,m<n->ev n (F m) x=0)->∀ j,j<n->x j=0
structure PD (n k:J) (A0:J->J->Y) (d:J->Y) (F A:J->J->Y):Prop where
 val:∀ x,qf n A0 x=sm k (fun m=>d m*(ev n (F m) x*ev n (F m) x))+qf n A (fun i=>ev n (F i) x)
 inj:∀ x,(∀ m,m<n->ev n (F m) x=0)->∀ j,j<n->x j=0
 zero:∀ i j,i<n->j<n->i<k\/j<k->A i j=0
 symm:A7o n A
end Go.Proofs.YteppbhimdjmabaaGreatDoor
namespace Go.Proofs.YteppbhimdjmabaaGreatDoor
set_option maxRecDepth 20000
structure TE (n k:J) (R:J->J->Y) (M:J->J->Z) (S:J->Y) (last:Z):Prop where
 elim:∃ B R',(∀ i j,i<n->j<n->Wh (B i j))/\Elim n n B R' (fun m=>m) k/\(last:Y)=dp B (fun m=>m) k/\∀ i j,k<=i->i<n->j<n->R' i j=S i*R i j
 ne:last≠0
 val:∀ i j,k<=i->i<n->j<n->(M i j:Y)=last*(S i*R i j)
 scale:∀ i,k<=i->i<n->0<S i
section
set_option maxRecDepth 100000
variable {h:aE} {K:VP}
end
section
variable {h g o:aE} {be:J} {T:Tb} {M:J->J->Z} {S:J->Y} {n k m sc:J} {w:IV} {z:Z} {L D:aT} {K:VP}
end
section
variable {h:aE} {K:VP} {A:Option aF} {n cap m:J} {r c:Z} {ls:J->dC UInt8} {E:J->Y}
end
end Go.Proofs.YteppbhimdjmabaaGreatDoor
namespace Go.Proofs.YteppbhimdjmabaaGreatDoor
set_option maxRecDepth 20000
def C32(k:J)(f:J->Y):∀l,sm (k+l) f=sm k f+sm l fun j=>f (k+j):=by
 intro l
 induction l with
 |zero=>show sm k f=sm k f+0;rw[dB]
 |succ l ih=>
  show sm (k+l) f+f (k+l)=sm k f+(sm l (fun j=>f (k+j))+f (k+l));rw[ih,Rat.add_assoc]
def SqE.not{r c:Z}{n q:J}{ls:J->dC UInt8}{e:Z}(sq:SqOk r c n ls q)(x:SqE r c n ls e):False:=by rcases x with⟨x,_⟩|⟨_,x,_⟩;{exact x ⟨_,_,sq.1⟩};·exact x ⟨_,sq⟩
section
variable {h:aE} {lA cA tA:Option aF} {ln lc cn cc tn tc:J} {ls cs ts:J->dC UInt8}
end
section
variable {h g o:aE} {bo n k m cap:J} {rb:J->J} {P R A0 F:J->J->Y} {d:J->Y} {K:VP}
end
def gz(m:J):J->J
 |0=>m
 |k+1=>16*gz m k+13
section
variable {h:aE} {A:Option aF} {n m cap:J} {E:J->Y} {K:VP}
end
structure FOut where
 r:Z
 n:J
 f:J->dC UInt8
 dn:J
 g:J->dC UInt8
 ok:Bool
 e:Z
def noF(e:Z):FOut:=⟨0,0,fun _=>[],0,fun _=>[],false,e⟩
def FacO(r c:Z)(n:J)(ls:J->dC UInt8)(o:FOut):Prop:=(∃e,SqE r c n ls e/\o=noF e)\/∃q,SqOk r c n ls q/\(((∀k,k<q->Xr (mtx (rvs ls) q) q k)/\o=⟨(q:Z),q*q,fun t=>E7 (B0d (mtx (rvs ls) q) q q t),q,fun t=>E7 (B0s (mtx (rvs ls) q) q t),true,0⟩)\/((¬∀k,k<q->Xr (mtx (rvs ls) q) q k)/\o=noF 0))
section
variable {r c:Z} {n:J} {ls:J->dC UInt8}
def SqE.eq{e e':Z}(x:SqE r c n ls e)(y:SqE r c n ls e'):e=e':=by rcases x with⟨x1,rfl⟩|⟨x1,x2,rfl⟩<;>rcases y with⟨y1,rfl⟩|⟨y1,y2,rfl⟩;{rfl};{exact absurd y1 x1};{exact absurd x1 y1};·rfl
def SqOk.eq{q q':J}(x:SqOk r c n ls q)(y:SqOk r c n ls q'):q=q':=by have:=x.1.er;have:=y.1.er;omega
def FacO.eq{o p:FOut}(x:FacO r c n ls o)(y:FacO r c n ls p):o=p:=by rcases x with⟨e,x1,rfl⟩|⟨q,x1,x2⟩<;>rcases y with⟨e',y1,rfl⟩|⟨q',y1,y2⟩;{rw[x1.eq y1]};{exact(x1.not y1).elim};{exact(y1.not x1).elim};·obtain rfl:=x1.eq y1;rcases x2 with⟨a,rfl⟩|⟨a,rfl⟩<;>rcases y2 with⟨b,rfl⟩|⟨b,rfl⟩;{rfl};{exact absurd a b};{exact absurd b a};·rfl
end
section
variable {h:aE} {K:VP} {A A2 B B2:Option aF} {n cap cap2 cap3 cap4 m Q:J} {r c:Z} {ls:J->dC UInt8}
def B0t(gl:Gl h)(rv':aP SSr h A n ls)(hn:n<=1000000)(hl:∀i,i<n->(ls i).length<=140737488351232)(hs:∀i,i<n->Sz m (rv (ls i)))(hb:∀q,MOk r c n ls q q->3^q*bnd q m+bnd q m<=Q)(hQ:Q<=20000000) (hK:∀o,FacO r c n ls o->∀A' B' c1 c2 h',h.le h'->aP SSr h' A' o.n o.f->aP SSr h' B' o.dn o.g->K (.tuple #[.agg #[I o.r,I o.r,.slice A' o.n c1,.slice B' o.dn c2],.bool o.ok,I o.e]) h'):aN prog 168 #[Lj r c A n cap] h K:=by refine A53 gl rv' hn hl hs hb hQ (fun q sq ok k p h' a b=>?_) (fun q sq ok h' a=>hK (noF 0) (.inr ⟨q,sq,.inr ⟨ok,rfl⟩⟩) none none 0 0 h' a RowV.nil RowV.nil) (fun e j h' a=>hK (noF e) (.inl ⟨e,j,rfl⟩) none none 0 0 h' a RowV.nil RowV.nil);obtain⟨rfl,rfl,_⟩:=id sq.1;exact hK ⟨_,_,_,_,_,_,_⟩ (.inr ⟨q,sq,.inl ⟨ok,rfl⟩⟩) _ _ _ _ h' a b.l b.d
end
def B66(E b:J->Y)(rows cols:J):fnd (fun i=>decide ((elP (U2 E b cols) rows (cols+1) cols).M i cols≠0)) (rows-(Km E b rows cols).cs.length) (Km E b rows cols).cs.length=rows↔Kc E b rows cols:=by have rel:=A4y (U2 E b cols) (rows:=rows) (cols:=cols+1) (c:=cols) o;have hl:(Km E b rows cols).cs.length<=rows:=(Dw (mtx (U2 E b cols) (cols+1)) rows cols).2;have l:∀i,i<rows->(Km E b rows cols).cs.length<=i->((elP (U2 E b cols) rows (cols+1) cols).M i cols=0↔(Km E b rows cols).R i cols=0):=by{intro i g k;have a:=rel.val i cols g o;have f:=T3 rel.last;have m:=rel.scale i g;constructor;{intro e;rw[e]at a;grind};·intro e;simp_all};have d:=Ub (fun i=>decide ((elP (U2 E b cols) rows (cols+1) cols).M i cols≠0)) (rows-(Km E b rows cols).cs.length) (Km E b rows cols).cs.length;constructor;{intro e i g k;grind};·intro h;refine A4q _ hl o (fun j a f=>?_) (fun n=>o);simpa using (l j f a).2 (h j f a)
section
variable {h:aE} {K:VP} {A B:Option aF} {n n2 cap cap2 m rows cols nb:J} {E b:J->Y}
def Pb{nq:J}(gl:Gl h)(ra:aP RQr h A (rows*cols) E)(hcap:rows*cols<=cap)(rb:aP RQr h B nb b)(hnb:rows<=nb)(hr:1<=rows)(hr2:rows<=1000)(hc:1<=cols)(hc2:cols<=1000)(hs:∀i,i<rows*cols->Sz m (E i))(hsb:∀i,i<rows->Sz m (b i))(hnq:∀j,j<=cols->(elE (U2 E b cols) rows (cols+1) j).cs.length<=nq)(hm:2*(3^nq*bnd (cols+1) m)+1<=40000000) (hK1:Kc E b rows cols->∀b' h',h.le h'->aP RQr h' (some ⟨b',0,none⟩) cols (A9o E b rows cols)->K (.tuple #[.slice (some ⟨b',0,none⟩) cols cols,.bool true]) h') (hK0:¬Kc E b rows cols->∀h',h.le h'->K (.tuple #[.slice none 0 0,.bool false]) h'):aN prog 178 #[.slice A (rows*cols) cap,I (rows:Z),I (cols:Z),.slice B nb cap2] h K:=by refine(fnk func178 [(3,[10,22],[],[.slice none 0 0,I 0]),(15,[68],[],[I 0])] (os:=[(17,[0,1,2,3,5,8,4,6,7,9,10,11])]) (own:=[14]) (wr:=[177])) ?_;have a5:rows*cols<=1000*1000:=aK hr2 hc2;have a4:rows*(cols+1)<=1000*1001:=aK hr2 oo;refine⟨fun L hp=>∃(k:J) (g o:aE) (xs:dC QV) (A':Option aF) (c':J),k<=rows/\L=[.slice A' (k*(cols+1)) c',I (k:Z)]/\h.le g/\Sep hp g o/\OwnSl o 143 A' c' xs/\xs.length=k*(cols+1)/\Row RQr g xs (k*(cols+1)) (U2 E b cols),fun L _=>rows-(iAt L 1).toNat,⟨0,h,Ag,[],none,0,oo,gz0,B8 _,Sep.refl h,OwnSl.nil,by simp,by rw[bF];exact Row.nil⟩,?_⟩;rintro wA wn wc z hp ⟨k,g,o,xs,A',c',hk,eL,lg,s,ow,n,rr⟩;obtain⟨⟨rfl,rfl,rfl⟩,rfl⟩:=eL;refine B9 (fun aa=>?_) (fun au=>?_);{have d:k<rows:=oo;have h2:(k+1)*cols<=rows*cols:=aO _ d;have e:(k+1)*cols=k*cols+cols:=gz0;have h4:(k+1)*(cols+1)=k*(cols+1)+cols+1:=gz0;have h5:(k+1)*(cols+1)<=rows*(cols+1):=aO _ d;have e0:C4 ((k:Z)+1)=((k+1:J):Z):=C0 oo oo;have e1:C4 ((k:Z)*(cols:Z))=((k*cols:J):Z):=by{exact O5 oo};have e2:C4 (C4 ((k:Z)+1)*(cols:Z))=(((k+1)*cols:J):Z):=by{rw[e0,<- cH];exact O5 oo};rw[e1,e2,e0];refine⟨⟨oo,oo⟩,⟨oo,oo⟩,?_⟩;simp only[aI];have e5:(k+1)*cols-k*cols=cols:=oo;rw[e5];have row:aP RQr h (X9 A cap (k*cols) 4) cols (fun j=>E (k*cols+j)):=ra.cut (c:=cap) (l:=k*cols) (k:=cols) oo hcap;obtain⟨a,sy,ax,qy⟩:=row;refine OwnSl.app (ty:=128) A0k s ow n.symm ax.symm gz0 (sy.mono (B6 lg s.le)) oo oo ?_;intro A2 c2 a8 g2 o2 l2 s2 ao _;have C:=B6 lg l2;obtain⟨a6,u,aq,iu,d0,d1,d2,d3⟩:=(rb.mono H2 C).qat (i:=k) oo;refine⟨_,_,_,rfl,a6,aq,oo,oo,_,_,_,_,_,_,_,_,C2 s2.le d0,C2 s2.le d1,C2 s2.le d2,C2 s2.le d3,?_⟩;have p:(xs++a).length=k*(cols+1)+cols:=gz0;rw[n];refine V8 (ty:=128) A0k s2 ao p.symm (y:=u) rfl dc oo oo ?_;intro A3 c3 ba g3 o3 W s3 r _;rw[p];have r1:Row RQr g2 (xs++a) (k*(cols+1)+cols) (U2 E b cols):=by{refine Row.app n (rr.mono H2 l2) ((qy.mono H2 C).congr fun j hj=>?_);obtain⟨f1,f2⟩:=dm1 (i:=k) (show j<cols+1 from oo);unfold U2;grind};refine⟨⟨k+1,g3,o3,_,A3,c3,oo,by rw[h4],B6 C W,s3,r,gz0,?_⟩,?_⟩;{have rB:=Row.push (R:=RQr) (g:=g3) (xs:=xs++a) (f:=U2 E b cols) (by rw[p];exact r1.mono H2 W) (w:=u) (by obtain⟨f1,f2⟩:=dm1 (i:=k) (show cols<cols+1 from oo);show RQ g3 u (U2 E b cols (xs++a).length);unfold U2;rw[p,f1,f2,iN (Nat.lt_irrefl cols)];exact H2 _ _ _ _ W iu);grind};·show rows-((k+1:J):Z).toNat<rows-(k:Z).toNat;omega};have d:k=rows:=oo;subst d;have ew:C4 ((cols:Z)+1)=((cols+1:J):Z):=C0 oo oo;rw[ew];have ai:=B6 lg s.le;have rq:aP RQr hp wA (k*(cols+1)) (U2 E b cols):=⟨xs,ow.slF s.ole,n,rr.mono H2 s.le⟩;have ag:=A7r (cols:=cols) hs hsb;refine Sn (nq:=nq) (E:=U2 E b cols) (cc:=cols) (m:=m) (gl.mono ai) rq (by have:=ow.1;omega) oo oo oo oo oo ag (fun j hj=>by rw[A7a _ oo];grind) oo ?_;intro T h2 ac l2 e1 e2;refine⟨_,rfl,FCall.mono ac ?_⟩;rintro r3 e ⟨g3,o3,A3,az,w,W,Q,r,a9,aw,rfl⟩;refine⟨_,_,_,_,_,_,_,_,rfl,?_⟩;have X:=A8u (E:=U2 E b cols) (rows:=k) (cols:=cols+1) (c:=cols) ag oo;have al:3^(elP (U2 E b cols) k (cols+1) cols).cs.length*bnd (cols+1) m<=3^nq*bnd (cols+1) m:=aO _ (bN dc (by rw[A7a _ oo];grind));have aj:∀i,i<(Km E b k cols).cs.length->i<k->cU ((elP (U2 E b cols) k (cols+1) cols).M i cols) (elP (U2 E b cols) k (cols+1) cols).last=(Km E b k cols).R i cols:=fun i h1 hi=>B42 (U2 E b cols) oo hi oo (.inl h1);have ap:Asc (Km E b k cols).cs cols:=A0s k ⟨_,[],1⟩ rfl cols;have ay:(Km E b k cols).cs.length<=cols/\(Km E b k cols).cs.length<=k:=Dw _ k cols;have F:=B66 E b k cols;have eX:A9o E b k cols=B2o (fun m=>(Km E b k cols).R m cols) (Km E b k cols).cs (Km E b k cols).cs.length:=(A1b _ _).symm;rw[A7a _ oo]at r ⊢;rw[eX]at hK1;generalize elP (U2 E b cols) k (cols+1) cols=st at *;generalize (elE (U2 E b cols) k (cols+1) cols).cs=cs at *;generalize (elE (U2 E b cols) k (cols+1) cols).R=R at *;have ah:=X.M;have V:=X.last;generalize 3^st.cs.length*bnd (cols+1) m=bb at ah V al;have sp:=r.slF Q.sep.ole;have D:h.le e:=B6 ai (B6 W Q.sep.le);have iw:ZIr e w st.last:=Q8 _ _ _ _ Q.sep.le aw;refine A4t Q (start:=cs.length) (col:=cols) oo oo (fun aa=>⟨_,_,rfl,hK0 (fun hx=>gz0) e D⟩) (fun a7=>⟨_,_,rfl,?_⟩);have av:=hK1 (F.1 gz0);have G:∀t,e.le t->∃gT,Tab t gT o3 T st.M st.S:=fun t l=>by{obtain⟨gT,l',s'⟩:=Q.sep.after l;exact⟨gT,Q.next s' l'⟩};refine G7 A0k (zx:=U1) rfl oo oo oo oo ?_;intro b2 an;refine⟨_,_,_,rfl,?_⟩;have s5:=(Sep.refl e).new an (.cells ((aU cols U1).flatMap enc).toArray 143);have r0:Row RQr e (aU cols U1) cols (B2o (fun m=>R m cols) cs 0):=fun i hi=>⟨U1,gz0,RQ.zero⟩;refine⟨fun L q=>∃(i:J) (t o':aE) (a:dC QV),i<=cs.length/\L=[I (i:Z)]/\e.le t/\Sep q t o'/\RowX o' b2 a/\a.length=cols/\Row RQr t a cols (B2o (fun m=>R m cols) cs i),fun L _=>cs.length-(iAt L 0).toNat,⟨0,e,_,_,oo,rfl,B8 _,s5,RowX.mk,cI,r0⟩,?_⟩;rintro z q ⟨i,g6,o6,a,hi,eL,O,N,ad,hy,af⟩;obtain rfl:z=(i:Z):=gz0;refine B9 (fun aa=>?_) (fun au=>?_);{have H:i<cs.length:=oo;obtain⟨u,eu,ar⟩:=C4o (sp.mono (B6 O N.le)) H;have a1:=C1j ap H;obtain⟨gT,tT⟩:=G g6 O;refine⟨u,eu,oo,oo,_,ar,?_⟩;refine N.call (Ae tT (i:=i) oo ?_);intro h7 s7;obtain⟨wv,zv,c0,c1⟩:=tT.at (i:=i) (j:=cols) oo oo;refine⟨_,_,_,rfl,N.le_le s7 (B8 _),_,rfl,oo,oo,_,_,_,_,C2 s7.le c0,C2 s7.le c1,?_⟩;refine s7.call (K7 (gl.mono (B6 D O)).tz (Q8 _ _ _ _ tT.sep.le zv) (Q8 _ _ _ _ O iw) (ah _ _ oo oo) V oo ?_);intro w9 g9 l9 i9 h9 s9;rw[aj i H oo]at i9;refine⟨_,_,_,_,_,_,_,_,rfl,s7.le_le s9 l9,_,rfl,oo,oo,?_⟩;refine P7 Gy (y:=w9) rfl s9 ad (i:=cs.getD i 0) oo ?_;intro a2 am a3 a0 ak ae;rw[wiS i oo];exact⟨⟨i+1,g9,am,_,oo,rfl,B6 O l9,ak,ae,gz0,(af.mono H2 l9).upd oo i9⟩,by simp only[U4];omega⟩};·have:i=cs.length:=oo;subst this;exact av b2 q (B6 D (B6 O N.le)) ⟨a,ad.rowB.slF N.ole,hy,af.mono H2 N.le⟩
end
def SolvO(r c:Z)(n:J)(la:J->dC UInt8)(n2:J)(lx:J->dC UInt8)(o:VOut):Prop:=(¬(Mx r c n la/\∀i,i<n2->IsNum (lx i))/\o=noV 1)\/(Mx r c n la/\(∀i,i<n2->IsNum (lx i))/\(n2:Z)≠r/\o=noV 4)\/(∃rows cols,MOk r c n la rows cols/\(∀i,i<n2->IsNum (lx i))/\(n2:Z)=r/\((Kc (rvs la) (rvs lx) rows cols/\o=⟨cols,fun i=>E7 (A9o (rvs la) (rvs lx) rows cols i),0⟩)\/(¬Kc (rvs la) (rvs lx) rows cols/\o=noV 8)))
def SolvO.eq{r c:Z}{n n2:J}{la lx:J->dC UInt8}{o p:VOut}(x:SolvO r c n la n2 lx o)(y:SolvO r c n la n2 lx p):o=p:=by rcases x with⟨h1,rfl⟩|⟨h1,h2,h3,rfl⟩|⟨r1,c1,h1,h2,h3,h4⟩<;>rcases y with⟨g1,rfl⟩|⟨g1,g2,g3,rfl⟩|⟨r2,c2,g1,g2,g3,g4⟩;{rfl};{grind};{exact absurd ⟨⟨_,_,g1⟩,g2⟩ h1};{grind};{rfl};{omega};{exact absurd ⟨⟨_,_,h1⟩,h2⟩ g1};{omega};·obtain rfl:r2=r1:=by{have:=h1.er;have:=g1.er;omega};obtain rfl:c2=c1:=by{have:=h1.ec;have:=g1.ec;omega};grind
def C8o(r c:Z)(n:J)(la:J->dC UInt8)(n2:J)(lx:J->dC UInt8)(e:Z)(ny:J)(fy:J->dC UInt8):Prop:=(e≠8/\ny=0)\/(e=8/\∃rows cols,MOk r c n la rows cols/\(∀i,i<n2->IsNum (lx i))/\(n2:Z)=r/\¬Kc (rvs la) (rvs lx) rows cols/\ny=rows/\fy=fun i=>E7 (A9o (A5r (rvs la) (rvs lx) rows cols) (B6k cols) (cols+1) rows i))
def A7z{E b:J->Y}{rows cols m nq:J}(hs:∀i,i<rows*cols->Sz m (E i))(hb:∀i,i<rows->Sz m (b i))(hm:1<=m)(hnq:(Km E b rows cols).cs.length<=nq):∀j,Sz (7^nq*m) (A9o E b rows cols j):=B9z (m:=m) (A8b nq m hm) (C1o (n:=rows) (w:=cols+1) (c:=cols) (B3e (A7r hs hb)) hm o hnq (aC _)).1
def B28{E b:J->Y}{rows cols m:J}(hr:1<=rows)(hs:∀i,i<rows*cols->Sz m (E i))(hb:∀i,i<rows->Sz m (b i)):∀i,i<(cols+1)*rows->Sz m (A5r E b rows cols i):=by intro i a;unfold A5r;by_cases e:i<cols*rows;{rw[iP e];refine hs _ (V5 (cV i o) (bC gz0))};grind
def B2a{cols m:J}(hm:1<=m):∀i,i<cols+1->Sz m (B6k cols i):=by intro i _;unfold B6k;split;{exact⟨ZB.one hm,ZB.one hm⟩};·exact Sz.zero hm
section
variable {h:aE} {K:VP} {A B:Option aF} {n n2 cap cap2 m:J} {r c:Z} {la lx:J->dC UInt8}
def A4a(gl:Gl h)(ra:aP SSr h A n la)(rx:aP SSr h B n2 lx)(hn:n<=1000000)(hn2:n2<=1000000)(hl:∀i,i<n->(la i).length<=140737488351232)(hl2:∀i,i<n2->(lx i).length<=140737488351232)(hs:∀i,i<n->Sz m (rv (la i)))(hs2:∀i,i<n2->Sz m (rv (lx i)))(hm1:1<=m) (hb1:∀rows cols,MOk r c n la rows cols->∃nq nk,(∀j,j<=cols->(elE (U2 (rvs la) (rvs lx) cols) rows (cols+1) j).cs.length<=nq)/\(∀j,j<=rows->(elE (U2 (A5r (rvs la) (rvs lx) rows cols) (B6k cols) rows) (cols+1) (rows+1) j).cs.length<=nk)/\2*(3^nq*bnd (cols+1) m)+1<=40000000/\2*(3^nk*bnd (rows+1) m)+1<=40000000/\7^nq*m<=40000000/\7^nk*m<=40000000) (hK:∀o,SolvO r c n la n2 lx o->∀ny fy,C8o r c n la n2 lx o.e ny fy->∀A' cap' A2 cap2' h',h.le h'->aP SSr h' A' o.n o.f->aP SSr h' A2 ny fy->K (.tuple #[.slice A' o.n cap',.slice A2 ny cap2',I o.e]) h'):aN prog 97 #[Lj r c A n cap,.slice B n2 cap2] h K:=by refine(fnk func97 (own:=[2])) ?_;have F:¬(Mx r c n la/\∀i,i<n2->IsNum (lx i))->∀h',h.le h'->K (.tuple #[.slice none 0 0,.slice none 0 0,I 1]) h':=fun hx h' l=>hK (noV 1) (.inl ⟨hx,rfl⟩) 0 (fun _=>[]) (.inl ⟨dc,rfl⟩) none 0 none 0 h' l RowV.nil RowV.nil;refine Z7 gl ra hn hl (fun rows cols mk b1 h1 own=>?_) (fun g h1 s=>⟨_,_,_,_,rfl,?_⟩);{have s:=own.le;refine⟨_,_,_,_,rfl,Z2 (gl.mono s) (rx.mono F1 s) hn2 hl2 (fun d b2 D a=>⟨_,_,_,_,rfl,Br.nt (Br.nt ?_)⟩) (fun g D C=>⟨_,_,_,_,rfl,Br.nt (Lk (F (fun x=>g x.2) D (B6 s C)))⟩)⟩;have C:=a.le;have p:=B6 s C;refine D8 (fun e=>hK (noV 4) (.inr (.inl ⟨⟨_,_,mk⟩,d,e,rfl⟩)) 0 (fun _=>[]) (.inl ⟨dc,rfl⟩) none 0 none 0 D p RowV.nil RowV.nil) (fun e=>?_);have N:=fun x=>hK ⟨cols,fun i=>E7 (A9o (rvs la) (rvs lx) rows cols i),0⟩ (.inr (.inr ⟨rows,cols,mk,d,e,.inl ⟨x,rfl⟩⟩)) 0 (fun _=>[]) (.inl ⟨show(0:Z)≠8 from dc,rfl⟩);have ah:=fun w=>hK (noV 8) (.inr (.inr ⟨rows,cols,mk,d,e,.inr ⟨w,rfl⟩⟩)) rows (fun i=>E7 (A9o (A5r (rvs la) (rvs lx) rows cols) (B6k cols) (cols+1) rows i)) (.inr ⟨rfl,rows,cols,mk,d,e,w,rfl,rfl⟩);obtain⟨nq,nk,u1,u2,k1,k2,k3,k4⟩:=hb1 rows cols mk;obtain rfl:n2=rows:=by{have:=mk.er;omega};obtain⟨rfl,rfl,_,_,_,_,rfl,_⟩:=id mk;have hX:=A7z hs hs2 hm1 (u1 cols (aC _));refine Pb (nq:=nq) (E:=rvs la) (b:=rvs lx) (m:=m) (gl.mono p) ((own.vis H2).mono H2 C) (aC _) (a.vis H2) (aC _) oo oo oo oo hs hs2 u1 k1 (fun M b3 h3 H S=>⟨_,_,_,_,rfl,?_⟩) (fun g h3 H=>⟨_,_,_,_,rfl,?_⟩);{refine U8 (m:=7^nq*m) (gl.mono (B6 p H)) S oo (fun i _=>hX i) k3 ?_;intro b4 h4 t;exact⟨_,_,_,rfl,N M _ _ none 0 h4 (B6 p (B6 H t.le)) (t.vis F1) RowV.nil⟩};·refine Pa ((own.vis H2).mono H2 (B6 C H)) oo oo ?_;intro A4 c4 h4 g4 o4 xs l4 s4 ac u ai;refine⟨_,_,_,rfl,?_⟩;have W:=B6 p (B6 H l4);obtain⟨ys,sy,ag,qy⟩:=(a.vis H2).mono H2 (B6 H l4);refine OwnSl.app (ty:=128) A0k s4 ac u.symm ag.symm gz0 (sy.mono s4.le) oo oo ?_;intro A5 c5 h5 g5 o5 l5 Q L _;refine⟨_,_,_,rfl,?_⟩;have e2:n2*cols+n2=(cols+1)*n2:=gz0;have G:(xs++ys).length=(cols+1)*n2:=gz0;have r5:aP RQr h5 A5 ((cols+1)*n2) (A5r (rvs la) (rvs lx) n2 cols):=by{refine⟨xs++ys,L.slF Q.ole,G,?_⟩;rw[<- e2];refine Row.app u (((ai.mono H2 l5).mono H2 Q.le).congr fun k hk=>?_) (((qy.mono H2 l5).mono H2 Q.le).congr fun k hk=>?_);{unfold A5r;grind};·unfold A5r;rw[bU cols n2,iN oo,Nat.add_sub_cancel_left]};have af:(cols+1)*n2<=c5:=by{have:=L.1;omega};have aj:=B6 W (B6 l5 Q.le);rw[u,e2];have ew:C4 ((cols:Z)+1)=((cols+1:J):Z):=C0 oo oo;rw[ew];refine G7 A0k (zx:=U1) rfl oo oo oo oo ?_;intro b6 ad;have s6:=(Sep.refl h5).new ad (.cells ((aU (cols+1) U1).flatMap enc).toArray 143);refine⟨_,_,_,rfl,s6.call (Gw ⟨oo,oo⟩ ?_)⟩;intro w7 g7 V i7 h7 s7;refine⟨_,_,_,_,_,_,_,_,rfl,s6.le_le s7 V,_,rfl,oo,oo,?_⟩;refine P7 Gy (y:=w7) rfl s7 RowX.mk (i:=cols) gz0 ?_;intro h8 o8 x8 al R ae;have z:=B6 aj (B6 V R.le);have T:=B6 V R.le;have r0:Row RQr g7 (aU (cols+1) U1) (cols+1) (fun _=>0):=fun i hi=>⟨U1,gz0,RQ.zero⟩;have r8:aP RQr h8 (some ⟨b6,0,none⟩) (cols+1) (B6k cols):=⟨_,ae.rowB.slF R.ole,gz0,((r0.upd gz0 i7).mono H2 R.le)⟩;have X:=A7z (B28 oo hs hs2) (B2a (cols:=cols) hm1) hm1 (u2 n2 (aC _));refine Pb (nq:=nk) (E:=A5r (rvs la) (rvs lx) n2 cols) (b:=B6k cols) (rows:=cols+1) (cols:=n2) (m:=m) (gl.mono z) (r5.mono H2 T) af r8 (aC _) oo oo oo oo (B28 oo hs hs2) (B2a hm1) u2 k2 (fun M b9 h9 l9 S=>⟨_,_,_,_,rfl,?_⟩) (fun O _ _=>absurd (C3b g) O);refine U8 (m:=7^nk*m) (gl.mono (B6 z l9)) S oo (fun i _=>X i) k4 ?_;intro ak aa q;exact⟨_,_,_,rfl,ah g none 0 _ _ aa (B6 z (B6 l9 q.le)) RowV.nil (q.vis F1)⟩};·refine Z2 (gl.mono s) (rx.mono F1 s) hn2 hl2 (fun d b2 D a=>⟨_,_,_,_,rfl,Lk (F (fun x=>g x.1) D (B6 s a.le))⟩) (fun _ D C=>⟨_,_,_,_,rfl,Lk (F (fun x=>g x.1) D (B6 s C))⟩)
def A72(gl:Gl h)(ra:aP SSr h A n la)(rx:aP SSr h B n2 lx)(hn:n<=1000000)(hn2:n2<=1000000)(hl:∀i,i<n->(la i).length<=140737488351232)(hl2:∀i,i<n2->(lx i).length<=140737488351232)(hs:∀i,i<n->Sz m (rv (la i)))(hs2:∀i,i<n2->Sz m (rv (lx i)))(hm1:1<=m) (hb1:∀rows cols,MOk r c n la rows cols->2*(3^cols*bnd (cols+1) m)+1<=40000000/\2*(3^rows*bnd (rows+1) m)+1<=40000000/\7^cols*m<=40000000/\7^rows*m<=40000000) (hK:∀o,SolvO r c n la n2 lx o->∀ny fy,C8o r c n la n2 lx o.e ny fy->∀A' cap' A2 cap2' h',h.le h'->aP SSr h' A' o.n o.f->aP SSr h' A2 ny fy->K (.tuple #[.slice A' o.n cap',.slice A2 ny cap2',I o.e]) h'):aN prog 97 #[Lj r c A n cap,.slice B n2 cap2] h K:=A4a gl ra rx hn hn2 hl hl2 hs hs2 hm1 (fun rows cols mk=>⟨cols,rows,fun j a=>bG (Dw _ rows j).1 a,fun j a=>bG (Dw _ (cols+1) j).1 a,hb1 rows cols mk⟩) hK
end
end Go.Proofs.YteppbhimdjmabaaGreatDoor
namespace Go.Proofs.YteppbhimdjmabaaGreatDoor
set_option maxRecDepth 20000
end Go.Proofs.YteppbhimdjmabaaGreatDoor
namespace Go.Proofs.YteppbhimdjmabaaGreatDoor
set_option maxRecDepth 20000
section
variable {m n s k yq9:J} {M:J->J->Y} {w b x y:J->Y}
end
end Go.Proofs.YteppbhimdjmabaaGreatDoor
namespace Go.Proofs.YteppbhimdjmabaaGreatDoor
set_option maxRecDepth 20000
def Bf{cs:dC J}{m:J}(h:m<cs.length):cs.getD m 0∈cs:=by rw[List.getD_eq_getElem?_getD,aV h];exact List.getElem_mem h
def B37{R:J->J->Y}{cs:dC J}{c:J}(hc:c∉cs):∀k,k<=cs.length->∀j,A6z R cs c k j=(if j=c then 1 else 0)+B2o (fun m=>- R m c) cs k j:=by
 intro k
 induction k with
 |zero=>intro _ j;show(if j=c then(1:Y)else 0)=_+0;rw[dB]
 |succ k ih=>
  intro f j;have b:=ih o j;have a:cs.getD k 0≠c:=fun e=>hc (e▸Bf o);show(if j=cs.getD k 0 then-R k c else A6z R cs c k j)=(if j=c then 1 else 0)+(if j=cs.getD k 0 then-R k c else B2o (fun m=>- R m c) cs k j);by_cases e:j=cs.getD k 0;·rw[iP e,iP e,iN (fun d=>a (by rw[<- e,d])),cZ]
  ·rw[iN e,iN e,b]
def B79{M:J->J->Y}{n w l:J}(hl:l<(Rn (ecE M n w).cs w).length){i:J}(hi:i<n):sm w (fun t=>M i t*C7p (ecE M n w).R (ecE M n w).cs w l t)=0:=by have h:=EqA.run (n:=n) (w:=w) M w (aC w);have d:Asc (ecE M n w).cs w:=A0s n ⟨M,[],1⟩ rfl w;obtain⟨f,p⟩:=A4p (ecE M n w).cs w _ (Bf hl);unfold C7p;generalize (Rn (ecE M n w).cs w).getD l 0=c at *;obtain⟨B,E,y,_⟩:=h.elim;have q:=h.zero;change ZrE n w (ecE M n w)at q;change Elim n w B (ecE M n w).R (fun m=>(ecE M n w).cs.getD m 0) (ecE M n w).cs.length at E;generalize ecE M n w=s at *;obtain⟨a,b,e⟩:=y i hi;have rep:∀j,j<w->B a j=sm s.cs.length fun m=>B a (s.cs.getD m 0)*s.R m j:=fun j k=>by{by_cases r:a<s.cs.length;{exact E.top a j r k};·rw[E.bot a j b o k,q a j b o k,cZ]};have u:sm w (fun t=>M i t*A6z s.R s.cs c s.cs.length t)=sm w (fun t=>B a t*(if t=c then 1 else 0)+B a t*A0r (fun _=>0) (fun m=>- s.R m c) 0 s.cs t):=E8 fun t _=>by{rw[B37 p s.cs.length (aC _) t,A1b,<- e t];grind};rw[u,Uw,Zb f fun t _ g=>by rw[iN g,cM],iP rfl,Rat.mul_one,B9x _ _ (B51 d) d.lt,rep c f];have z:(sm s.cs.length fun m=>B a (s.cs.getD m 0) * - s.R m c)= - sm s.cs.length fun m=>B a (s.cs.getD m 0)*s.R m c:=by{rw[<- A39];exact E8 fun m _=>by grind};rw[z];grind
def A82{n w:J}{M M':J->J->Y}(h:∀i j,i<n->j<w->M i j=M' i j):∀c,c<=w->(Xu n ⟨M,[],1⟩ c).cs=(Xu n ⟨M',[],1⟩ c).cs/\∀i j,i<n->j<w->(Xu n ⟨M,[],1⟩ c).R i j=(Xu n ⟨M',[],1⟩ c).R i j:=by
 intro c
 induction c with
 |zero=>exact fun _=>⟨rfl,h⟩
 |succ c ih=>
  intro p;obtain⟨e,d⟩:=ih o;have k:Xu n ⟨M,[],1⟩ (c+1)=Iv n c (Xu n ⟨M,[],1⟩ c):=rfl;have m:Xu n ⟨M',[],1⟩ (c+1)=Iv n c (Xu n ⟨M',[],1⟩ c):=rfl;rw[k,m];generalize Xu n ⟨M,[],1⟩ c=s at *;generalize Xu n ⟨M',[],1⟩ c=t at *
  have l:No n c s=No n c t:=by
   unfold No;rw[e];exact A4r _ _ fun j _ _=>by rw[d j c o o]
  unfold Iv;rw[l,e];by_cases a:t.cs.length<n
  ·rw[iP a,iP a];by_cases b:No n c t<n
   ·rw[iP b,iP b];refine⟨rfl,fun i j g f=>?_⟩;show elimE (fun i=>s.R (xch t.cs.length (No n c t) i)) t.cs.length c i j=elimE (fun i=>t.R (xch t.cs.length (No n c t) i)) t.cs.length c i j;unfold elimE;simp only[d _ c (Ll a b g) (show c<w from o),d _ c (Ll a b a) (show c<w from o),d _ j (Ll a b g) f,d _ j (Ll a b a) f]
   ·rw[iN b,iN b];exact⟨rfl,d⟩
  ·rw[iN a,iN a];exact⟨e,d⟩
def Ux(n:J)(a:Y)(f:J->Y):sm n (fun i=>f i*a)=sm n f*a:=by rw[cD,<- Hu];exact E8 fun i _=>cD _ _
def B71{R:J->J->Y}{cs:dC J}{c:J}(hc:c∉cs):∀k,k<=cs.length->A6z R cs c k c=1:=by
 intro k
 induction k with
 |zero=>intro _;show(if c=c then(1:Y)else 0)=1;rw[iP rfl]
 |succ k ih=>
  intro a;show(if c=cs.getD k 0 then-R k c else A6z R cs c k c)=1;rw[iN (fun e=>hc (by rw[e];exact Bf o)),ih o]
def B0h{E:J->Y}{n:J}(h:∀x:J->Y,(∀i,i<n->sm n (fun t=>mtx E n i t*x t)=0)->∀t,t<n->x t=0):A5l E n:=by have f:=(A82 (n:=n) (w:=n) (M:=mtx (Cn E n) (n+n)) (M':=mtx E n) (fun i j _ g=>by show Cn E n (i*(n+n)+j)=_;rw[A0b E o,iP g];rfl) n (aC n)).1;show(Xu n ⟨mtx (Cn E n) (n+n),[],1⟩ n).cs.length=n;rw[f];have k:=(Dw (mtx E n) n n).1;refine bY fun a=>?_;have b:Asc (ecE (mtx E n) n n).cs n:=A0s n ⟨mtx E n,[],1⟩ rfl n;have hl:0<(Rn (ecE (mtx E n) n n).cs n).length:=by{rw[B3r b];have:(ecE (mtx E n) n n).cs.length≠n:=a;omega};obtain⟨d,e⟩:=A4p (ecE (mtx E n) n n).cs n _ (Bf hl);have c:=h _ (fun i l=>B79 (M:=mtx E n) (n:=n) (w:=n) hl l) _ d;unfold C7p at c;rw[B71 e _ (aC _)]at c;exact absurd c dc
def C7i(M:J->J->Y)(cs:dC J):J->Y:=fun k=>M (cs.getD (k/cs.length) 0) (cs.getD (k%cs.length) 0)
def B6z(M:J->J->Y)(cs:dC J){a b:J}(hb:b<cs.length):mtx (C7i M cs) cs.length a b=M (cs.getD a 0) (cs.getD b 0):=by obtain⟨d,c⟩:=dm1 (i:=a) hb;show M (cs.getD ((a*cs.length+b)/cs.length) 0) (cs.getD ((a*cs.length+b)%cs.length) 0)=_;rw[d,c]
def C10(M:J->J->Y)(n:J):∀i,i<n->∀j,j<n->M i j=sm (ecE M n n).cs.length fun m=>M i ((ecE M n n).cs.getD m 0)*(ecE M n n).R m j:=fun i p j c=>by have eq:=EqA.run (n:=n) (w:=n) M n (aC n);have d:=(Dw M n n).2;obtain⟨B,E,l,_⟩:=eq.elim;have f:=eq.zero;change ZrE n n (ecE M n n)at f;change Elim n n B (ecE M n n).R (fun m=>(ecE M n n).cs.getD m 0) (ecE M n n).cs.length at E;generalize ecE M n n=s at *;obtain⟨b,a,e⟩:=l i p;have k:(sm s.cs.length fun m=>M i (s.cs.getD m 0)*s.R m j)=sm s.cs.length fun m=>B b (s.cs.getD m 0)*s.R m j:=E8 fun m _=>by{rw[e]};rw[k,<- e j];by_cases g:b<s.cs.length;{exact E.top b j g c};·rw[E.bot b j a o c,f b j a o c,cZ]
def C11{M:J->J->Y}{n:J}(hs:A7o n M):A5l (C7i M (ecE M n n).cs) (ecE M n n).cs.length:=by refine B0h fun x G t f=>?_;have eq:=EqA.run (n:=n) (w:=n) M n (aC n);have y:=(Dw M n n).2;have a:∀k,k<(ecE M n n).cs.length->(ecE M n n).cs.getD k 0<n:=fun k z=>eq.lt _ (Bf z);have rep:=C10 M n;obtain⟨B,E,H,_⟩:=eq.elim;obtain⟨T,u⟩:=eq.comb;change Elim n n B (ecE M n n).R (fun m=>(ecE M n n).cs.getD m 0) (ecE M n n).cs.length at E;change ∀i j,i<n->j<n->(ecE M n n).R i j=sm n fun l=>T i l*M l j at u;generalize ecE M n n=s at *;have d:∀j,j<n->sm s.cs.length (fun b=>M j (s.cs.getD b 0)*x b)=0:=fun j r=>by{have A:∀b,b<s.cs.length->M j (s.cs.getD b 0)=sm s.cs.length fun m=>M (s.cs.getD b 0) (s.cs.getD m 0)*s.R m j:=fun b c=>by{rw[hs j _ r (a b c)];exact rep _ (a b c) j r};have F:(sm s.cs.length fun b=>M j (s.cs.getD b 0)*x b)=sm s.cs.length fun b=>sm s.cs.length fun m=>s.R m j*(M (s.cs.getD m 0) (s.cs.getD b 0)*x b):=E8 fun b c=>by{rw[A b c,<- Ux];exact E8 fun m g=>by rw[hs _ _ (a b c) (a m g)];grind};rw[F,A0o];refine Iw fun m g=>?_;rw[Hu];have:=G m g;have D:(sm s.cs.length fun t=>mtx (C7i M s.cs) s.cs.length m t*x t)=sm s.cs.length fun b=>M (s.cs.getD m 0) (s.cs.getD b 0)*x b:=E8 fun b c=>by{rw[B6z M s.cs c]};rw[D]at this;rw[this,cM]};have q:(sm s.cs.length fun b=>s.R t (s.cs.getD b 0)*x b)=0:=by{have C:(sm s.cs.length fun b=>s.R t (s.cs.getD b 0)*x b)=sm s.cs.length fun b=>sm n fun l=>T t l*(M l (s.cs.getD b 0)*x b):=E8 fun b c=>by{rw[u t _ o (a b c),<- Ux];exact E8 fun l _=>by grind};rw[C,A0o];refine Iw fun l hl=>?_;rw[Hu,d l hl,cM]};rw[Zb f fun b c p=>by rw[E.piv t b f c,iN fun e=>p e.symm,Rat.zero_mul],E.piv t t f f,iP rfl,Rat.one_mul]at q;exact q
def fl(M:J->J->Y)(w:J):J->Y:=fun k=>M (k/w) (k%w)
def Y3(M:J->J->Y)(w:J):rvs (T1 M w)=fl M w:=funext fun _=>F3 _
def B3s(M:J->J->Y){w i j:J}(hj:j<w):mtx (fl M w) w i j=M i j:=by obtain⟨b,a⟩:=dm1 (i:=i) hj;show M ((i*w+j)/w) ((i*w+j)%w)=_;rw[b,a]
structure FM (h:aE) (A:Option aF) (p w m:J) (M:J->J->Y):Prop where
 r1:1<=p
 r2:p<=64
 c1:1<=w
 c2:w<=64
 row:aP SSr h A (p*w) (T1 M w)
 sz:∀ i j,i<p->j<w->Sz m (M i j)
section
variable {h h':aE} {K:VP} {A B:Option aF} {c c2 p q w m n:J} {M X:J->J->Y}
def FM.mono(l:h.le h')(x:FM h A p w m M):FM h' A p w m M:=⟨x.r1,x.r2,x.c1,x.c2,x.row.mono F1 l,x.sz⟩
def FM.ok(x:FM h A p w m M):MOk p w (p*w) (T1 M w) p w:=⟨rfl,rfl,x.r1,x.r2,x.c1,x.c2,rfl,fun _ _=>⟨_,rfl⟩⟩
def FM.mx(x:FM h A p w m M):Mx p w (p*w) (T1 M w):=⟨_,_,x.ok⟩
def FM.nn(x:FM h A p w m M):p*w<=1000000:=bG (aK x.r2 x.c2) dc
def FM.at(x:FM h A p w m M){i:J}(hi:i<p*w):Sz m (fl M w i):=x.sz _ _ (bC (by rw[bU];exact hi)) (cV _ x.c1)
def FM.szs(x:FM h A p w m M):∀i,i<p*w->Sz m (rv (T1 M w i)):=fun i a=>by show Sz m (rv (E7 _));rw[F3];exact x.at a
def FM.len(x:FM h A p w m M)(hm:m<=40000000):∀i,i<p*w->(T1 M w i).length<=140737488351232:=fun i a=>by have:=Oa (x.at a);show(E7 (fl M w i)).length<=_;omega
def Lr{p w r k n:J}{ls:J->dC UInt8}(x:MOk (p:Z) (w:Z) n ls r k):r=p/\k=w:=by have:=x.er;have:=x.ec;omega
def C59(M:J->J->Y)(p w:J):(elE (fl M w) p w w).cs=(ecE M p w).cs:=(A82 (n:=p) (w:=w) (fun _ _ _ a=>B3s M a) w (aC _)).1
def Vz(gl:Gl h)(x:FM h A p w m M)(hm:2*(3^w*bnd w m)+1<=100000000)(hm0:m<=40000000)(hK:K (.tuple #[I ((ecE M p w).cs.length:Z),I 0]) h):aN prog 95 #[Lj p w A (p*w) c] h K:=by refine FCall.pure (B06 gl x.row x.nn (x.len hm0) x.szs (fun r k mk=>?_) (fun r k mk b a=>?_) fun no=>absurd x.mx no);{obtain⟨rfl,rfl⟩:=Lr mk;exact hm};·obtain⟨rfl,rfl⟩:=Lr mk;rw[Y3,C59];exact⟨a,hK⟩
def A1j(gl:Gl h)(x:FM h A p w m M)(hm:2*(3^w*bnd w m)+1<=40000000)(hm0:m<=40000000)(hK:∀b A' c' h',h.le h'->SlF h' A' (zs (ecE M p w).cs)->K (.tuple #[Lj p w b (p*w) (p*w),.slice A' (ecE M p w).cs.length c',I 0]) h'):aN prog 169 #[Lj p w A (p*w) c] h K:=by refine A4b gl x.row x.nn (x.len hm0) x.szs (fun r k mk=>?_) (fun r k mk b a A' c' o=>?_) fun no=>absurd x.mx no;{obtain⟨rfl,rfl⟩:=Lr mk;exact hm};·obtain⟨rfl,rfl⟩:=Lr mk;rw[Y3,C59]at *;exact hK _ _ _ _ o.le o.ints.1
def Yg(gl:Gl h)(x:FM h A p p m M)(hi:A5l (fl M p) p)(hm1:1<=m)(hm:2*(3^p*bnd (p+p) m)+1<=40000000)(hm0:m<=40000000)(hK:∀A' c' h',h.le h'->aP SSr h' A' (p*p) (T1 (B3n (fl M p) p) p)->K (.tuple #[Lj p p A' (p*p) c',I 0]) h'):aN prog 171 #[Lj p p A (p*p) c] h K:=by refine A1o gl x.row x.nn (x.len hm0) x.szs hm1 (fun q mk=>?_) fun o d A' c' e b a=>?_;{obtain⟨rfl,_⟩:=Lr mk;exact hm};·obtain rfl:=d.eq (.inr (.inr ⟨p,x.ok,.inl ⟨by rw[Y3];exact hi,rfl⟩⟩));rw[Y3]at a;exact hK _ _ _ b a
def C67(n:J)(M X:J->J->Y):J->J->Y:=fun i j=>sm n fun t=>M i t*X t j
def Zo(gl:Gl h)(x:FM h A p n m M)(y:FM h B n w m X)(hm1:1<=m)(hm:2*(1+n*(2*m+1)+2*m)+14<=40000000)(hK:∀A' c' h',h.le h'->aP SSr h' A' (p*w) (T1 (C67 n M X) w)->K (.tuple #[Lj p w A' (p*w) c',I 0]) h'):aN prog 241 #[Lj p n A (p*n) c,Lj n w B (n*w) c2] h K:=by have a:m<=40000000:=oo;refine B0b (d:=n) gl x.row y.row x.nn y.nn (x.len a) (y.len a) x.szs y.szs hm1 (fun r k mk=>by have:=(Lr mk).2;omega) hm fun o mo A' c' i f g=>?_;rcases mo with⟨no,_⟩|⟨_,_,no,_⟩|⟨r,k,l,mk,b,rfl⟩;{exact absurd ⟨x.mx,y.mx⟩ no};{exact absurd rfl no};·obtain⟨rfl,rfl⟩:=Lr mk;obtain⟨_,rfl⟩:=Lr b;refine hK _ _ _ f (g.congr fun t q=>congrArg E7 (E8 fun j e=>?_));rw[Y3,Y3,B3s M e,B3s X (cV _ y.c1)]
def Jj{b:J->Y}(gl:Gl h)(x:FM h A p w m M)(rb:aP SSr h B p (fun i=>E7 (b i)))(sb:∀i,i<p->Sz m (b i))(ok:Kc (fl M w) b p w)(hm1:1<=m)(hm:2*(3^w*bnd (w+1) m)+1<=40000000/\2*(3^p*bnd (p+1) m)+1<=40000000/\7^w*m<=40000000/\7^p*m<=40000000) (hK:∀A' c' B2 n2 c2 h',h.le h'->aP SSr h' A' w (fun i=>E7 (A9o (fl M w) b p w i))->K (.tuple #[.slice A' w c',.slice B2 n2 c2,I 0]) h'):aN prog 97 #[Lj p w A (p*w) c,.slice B p c2] h K:=by have a:m<=40000000:=bG (Nat.le_mul_of_pos_left _ (Nat.pow_pos dc)) hm.2.2.1;have f:rvs (fun i=>E7 (b i))=b:=funext fun _=>F3 _;refine A72 gl x.row rb x.nn (by have:=x.r2;omega) (x.len a) (fun i d=>by have:=Oa (sb i d);omega) x.szs (fun i d=>by rw[F3];exact sb i d) hm1 (fun r k mk=>?_) fun o j n q _ A' c' A2 c2 s g e l=>?_;{obtain⟨rfl,rfl⟩:=Lr mk;exact hm};·obtain rfl:=j.eq (.inr (.inr ⟨p,w,x.ok,fun _ _=>⟨_,rfl⟩,rfl,.inl ⟨by rw[Y3,f];exact ok,rfl⟩⟩));rw[Y3,f]at e;exact hK _ _ _ _ _ _ g e
end
def Hp{h:aE}{b:J}{o:Obj}(e:h b=some o):h.put b o=h:=funext fun k=>by unfold Heap.put;split;{rename_i q;subst q;exact e.symm};·rfl
def B3a:∀v:Fin 3,∀d:Fin 4,1<=v.val->1<=nM v d/\nM v d<=10/\(d.val<=2->nM v d<=6):=by decide +kernel
def B73{v d:J}(h1:1<=v)(h2:v<=2)(hd:d<=3):1<=nM v d/\nM v d<=10:=by have:=B3a ⟨v,o⟩ ⟨d,o⟩ h1;exact⟨this.1,this.2.1⟩
def B4v{n m:J}(hn:n<=10)(hm:m<=15):3^n*bnd n m<=9802134/\bnd n m<=166:=by have b:n*m<=10*15:=aK hn hm;have a:bnd n m<=166:=by{unfold bnd;omega};exact⟨aK (bN dc hn) a,a⟩
def rkM(V:J->Y)(v d:J):J:=(ecE (We V v d) (nM v d) (nM v d)).cs.length
section
variable {h:aE} {K:VP} {A B T:Option aF} {c cc tc n m v d D:J} {V:J->Y}
def A4e(h1:1<=v)(h2:v<=2)(hd3:d<=3)(d6:D<=6)(hD:2*d<=D):A7o (nM v d) (We V v d):=fun i k a b=>by unfold We;rw[(Kr h1 h2 hd3 d6 hD a b).sym]
def FnV.fm(f:FnV h A v D m V)(hd3:d<=3)(hD:2*d<=D)(r:aP SSr h B (nM v d*nM v d) (T1 (We V v d) (nM v d))):FM h B (nM v d) (nM v d) m (We V v d):=by have:=B73 f.v1 f.v2 hd3;exact⟨this.1,o,this.1,o,r,fun i j b a=>f.sz _ (Kr f.v1 f.v2 hd3 f.d6 hD b a).lt⟩
def A74(gl:Gl h)(f:FnV h A v D m V)(hm:m<=15)(hd1:1<=d)(hd3:d<=3)(hD:2*d<=D)(hK:K (.tuple #[I (rkM V v d:Z),.bool ((rkM V v d:Z)==(rkM V v (d-1):Z)),I 0]) h): aN prog 90 #[.agg #[I (v:Z),I (D:Z),.slice A (mo v D).length c],I (d:Z)] h K:=by have R:=f.d6;have H:C4 (cX (D:Z) 2)=((D/2:J):Z):=by{rw[bX oo,C0 oo oo];omega};refine FCall.pure ((fnk func90 [(7,[23],[],[I 0])] (own:=[2,9])) ?_);refine Eo gl f ⟨_,rfl,Br.nt (B9 (fun e=>oo) (fun _=>?_))⟩;rw[H];refine B9 (fun e=>oo) (fun _=>?_);refine Jt (z:=.agg #[I 0,I 0]) (size:=2) (bytes:=16) (by kernel_rfl) fun b p=>⟨_,rfl,?_⟩;refine⟨fun L a=>∃(i:J) (x y:Z) (e:aW),i<=2/\L=[I (i:Z)]/\h.le a/\a b=some (.cells #[I x,I y] e)/\(1<=i->x=rkM V v d)/\(2<=i->y=rkM V v (d-1)),fun L _=>2-(iAt L 0).toNat,⟨0,0,0,_,oo,rfl,Heap.le_put _ p,C3 _ _ _,fun e=>oo,fun e=>oo⟩,?_⟩;rintro z a ⟨i,x,y,S,T,M,g,l,t,O⟩;obtain rfl:=sI1 M;refine B9 (fun B=>?_) (fun w=>?_);{rw[show C4 ((d:Z)-(i:Z))=((d-i:J):Z) by rw[C0]<;>omega];have r:=f.mono g;refine Hh (d:=d-i) (gl.mono g) r oo oo fun A1 c1 G j C=>⟨_,_,_,_,_,_,rfl,D8 (fun e=>absurd rfl e) (fun _=>?_)⟩;have E:=B73 f.v1 f.v2 (show d-i<=3 from oo);have Q:=B4v E.2 hm;refine Vz (m:=m) (gl.mono (B6 g j)) ((r.mono j).fm oo oo C) (by rw[bU 2];omega) oo ⟨_,_,rfl,⟨oo,oo⟩,?_⟩;have n:=j _ _ l;rw[<- Hp n];refine Uv ⟨by kernel_rfl,by kernel_rfl⟩ (by simp;omega) ?_;refine D8 (fun e=>absurd rfl e) (fun _=>?_);rw[wiS i oo,aI];have s:∀o,h.le (G.put b o):=fun o k u e=>by{have F:k≠b:=fun q=>by{rw[q,p]at e;cases e};rw[C1 _ _ F];exact j _ _ (g _ _ e)};refine⟨?_,by simp only[U4];omega⟩;rcases(show i=0\/i=1 from oo)with rfl|rfl;{exact⟨1,_,y,_,oo,rfl,s _,by rw[C3];rfl,fun _=>rfl,fun e=>oo⟩};·exact⟨2,x,_,_,oo,rfl,s _,by rw[C3];rfl,fun _=>t oo,fun _=>rfl⟩};·obtain rfl:i=2:=oo;have g0:a.cell? (aH ⟨b,0,none⟩ ((0:Z).toNat*1))=some (I x):=by{rw[D9];unfold Heap.cell?;rw[l];rfl};have N:a.cell? (aH ⟨b,0,none⟩ ((1:Z).toNat*1))=some (I y):=by{rw[D9];unfold Heap.cell?;rw[l];rfl};refine⟨dc,_,g0,dc,_,g0,dc,_,N,g,?_⟩;rw[t oo,O oo];exact hK
def Wf(gl:Gl h)(f:FnV h A v D m V)(hm:m<=15)(hd3:d<=3)(hD:2*d<=D)(hK1:(∀k,k<nM v d->Xr (mtx (fl (We V v d) (nM v d)) (nM v d)) (nM v d) k)->K (.tuple #[.bool true,I 0]) h)(hK0:(¬∀k,k<nM v d->Xr (mtx (fl (We V v d) (nM v d)) (nM v d)) (nM v d) k)->K (.tuple #[.bool false,I 0]) h): aN prog 91 #[.agg #[I (v:Z),I (D:Z),.slice A (mo v D).length c],I (d:Z)] h K:=by refine FCall.pure ((fnk func91 (own:=[2,6,8])) ?_);refine Hh gl f hd3 hD fun A1 c1 C a r=>⟨_,_,_,_,_,_,rfl,D8 (fun e=>absurd rfl e) (fun _=>?_)⟩;have u:=B73 f.v1 f.v2 hd3;have E:=B4v u.2 hm;have x:=(f.mono a).fm hd3 hD r;have sq:SqOk (nM v d) (nM v d) (nM v d*nM v d) (T1 (We V v d) (nM v d)) (nM v d):=⟨x.ok,fun i j g z=>by obtain⟨l,t⟩:=dm1 (i:=i) (show j<nM v d from oo);obtain⟨n,s⟩:=dm1 (i:=j) g;unfold T1;rw[l,t,n,s,A4e f.v1 f.v2 hd3 f.d6 hD i j g oo]⟩;refine B0t (m:=m) (Q:=20000000) (gl.mono a) x.row x.nn (x.len oo) x.szs (fun q mk=>?_) (aC _) fun o b A2 B2 c2 c3 B p w y=>⟨_,_,_,_,_,_,_,_,_,_,rfl,B6 a p,?_⟩;{obtain⟨rfl,_⟩:=Lr mk;omega};·by_cases ok:∀k,k<nM v d->Xr (mtx (rvs (T1 (We V v d) (nM v d))) (nM v d)) (nM v d) k;{obtain rfl:=b.eq (.inr ⟨_,sq,.inl ⟨ok,rfl⟩⟩);rw[Y3]at ok;exact hK1 ok};·obtain rfl:=b.eq (.inr ⟨_,sq,.inr ⟨ok,rfl⟩⟩);rw[Y3]at ok;exact hK0 ok
end
def MIr:aE->HV->dC Z->Prop:=fun h w xs=>w.n=xs.length/\SlI .i64 h w.A xs/\xs.length<=6
def B3g:Mon MIr:=fun _ _ _ _ l i=>⟨i.1,i.2.1.mono l,i.2.2⟩
def pvL(V:J->Y)(v d:J):dC J:=(ecE (We V v d) (nM v d) (nM v d)).cs
def bdr(V:J->Y)(v d:J)(i:J):dC Z:=mon v d ((pvL V v d).getD i 0)
def sqM(V:J->Y)(v d:J):J->J->Y:=fun i j=>We V v d ((pvL V v d).getD i 0) ((pvL V v d).getD j 0)
def ivM(V:J->Y)(v d:J):J->J->Y:=B3n (fl (sqM V v d) (rkM V v d)) (rkM V v d)
def Sr(V:J->Y)(v d:J){i:J}(hi:i<rkM V v d):(pvL V v d).getD i 0<nM v d:=(EqA.run (n:=nM v d) (w:=nM v d) (We V v d) (nM v d) (aC _)).lt _ (Bf hi)
def B8d(V:J->Y)(v d:J):rkM V v d<=nM v d:=(Dw (We V v d) (nM v d) (nM v d)).2
section
variable {h:aE} {K:VP} {A B T:Option aF} {c cc tc n m v d D:J} {V:J->Y}
def RowV.mi{f:J->dC Z}(r:aP MIr h A n f){i:J}(hi:i<n):∃a B bc,A=some a/\h.cell? (aH a (i*1))=some (.slice B (f i).length bc)/\SlI .i64 h B (f i):=by obtain⟨a,w,e,⟨c,d,_⟩,b⟩:=r.at dc hi;have:=b 0 _ rfl;rw[Ju,c]at this;exact⟨a,_,_,e,this,d⟩
def C30(h1:1<=v)(h2:v<=2)(hd3:d<=3)(d6:D<=6)(hD:2*d<=D):A5l (fl (sqM V v d) (rkM V v d)) (rkM V v d):=C11 (A4e h1 h2 hd3 d6 hD)
def Es(gl:Gl h)(f:FnV h A v D m V)(hm1:1<=m)(hm:m<=15)(hd2:d<=2)(hD:2*d<=D)(hr:1<=rkM V v d) (hK:∀BA bc IA ic h',h.le h'->aP MIr h' BA (rkM V v d) (bdr V v d)->aP SSr h' IA (rkM V v d*rkM V v d) (T1 (ivM V v d) (rkM V v d))->K (.tuple #[.agg #[I (v:Z),I (D:Z),.slice A (mo v D).length c,.slice BA (rkM V v d) bc,I (rkM V v d:Z),I (rkM V v d:Z),.slice IA (rkM V v d*rkM V v d) ic],I 0]) h'): aN prog 92 #[.agg #[I (v:Z),I (D:Z),.slice A (mo v D).length c],I ((d+1:J):Z)] h K:=by have d6:=f.d6;have nb:=B73 f.v1 f.v2 (show d<=3 from o);have r:=(B3a ⟨v,by have:=f.v2;omega⟩ ⟨d,o⟩ f.v1).2.2 hd2;change nM v d<=6 at r;have bb:=B4v nb.2 hm;have aj:=B8d V v d;refine(fnk func92 [(13,[59],[(11,7),(12,3)],[I 0,I 0,I 0,.slice none 0 0,.slice none 0 0,I 0,I 0,.slice none 0 0,I 0,I 0,.slice none 0 0]),(17,[74],[(12,3)],[I 0,I 0,I 0,.slice none 0 0])] (own:=[2,4,6,8,11,12]) (wr:=[1000000000])) ?_;rw[show C4 (((d+1:J):Z)-1)=(d:Z) by rw[C0]<;>omega];refine Hh gl f o hD fun A1 c1 h1 O r1=>⟨_,_,_,_,_,_,rfl,D8 (fun e=>absurd rfl e) (fun _=>?_)⟩;have x:=(f.mono O).fm o hD r1;refine A1j (m:=m) (gl.mono O) x (by rw[bU 2];omega) o fun b A2 c2 S l2 sz=>⟨_,_,_,_,_,_,_,_,_,rfl,D8 (fun e=>absurd rfl e) (fun _=>?_)⟩;refine Ks f.v1 f.v2 o fun A3 c3 M H s3=>⟨_,_,_,_,rfl,D8 (fun e=>absurd rfl e) (fun _=>?_)⟩;have T:=sz.mono H;have r3:=r1.mono F1 (B6 l2 H);have R:=gl.mono (B6 O (B6 l2 H));have hz:∀i,i<rkM V v d->∃a,A2=some a/\M.cell? (aH a (i*1))=some (I ((pvL V v d).getD i 0:Z)):=fun i N=>by{have hl:(zs (pvL V v d)).length=rkM V v d:=by{unfold zs;rw[cT];rfl};obtain⟨a,e,q⟩:=T.iat (i:=i) (by show i<(zs (pvL V v d)).length;omega);have aa:i<(pvL V v d).length:=N;have e0:(pvL V v d).getD i 0=(pvL V v d)[i]:=by{simp[List.getD,aa]};exact⟨a,e,by rw[q,e0];simp;rfl⟩};change SlF S A2 (zs (pvL V v d))at sz;generalize hF:T1 (sqM V v d) (rkM V v d)=F;have t:∀i k,k<rkM V v d->F (i*rkM V v d+k)=E7 (sqM V v d i k):=fun i k hk=>by{obtain⟨E,G⟩:=dm1 (i:=i) hk;rw[<- hF];unfold T1;rw[E,G]};refine⟨fun L C=>∃(i:J) (BA:Option aF) (bc:J) (SA:Option aF) (s:J),i<=rkM V v d/\L=[I (i:Z),I (v:Z),I (D:Z),.slice A (mo v D).length c,.slice BA i bc,I 0,I 0,.slice none 0 0,I (rkM V v d:Z),I (rkM V v d:Z),.slice SA (i*rkM V v d) s]/\Lst2 MIr 38 SSr 9 M C BA bc i (bdr V v d) SA s (i*rkM V v d) F,fun L _=>rkM V v d-(iAt L 0).toNat,⟨0,none,0,none,0,o,by rw[bF];rfl,by rw[bF];exact Lst2.nil⟩,?_⟩;rintro z q0 q1 qA qn qc pA i pc q4 q5 uA un uc s0 s1 sA sn s C ⟨i0,BA,bc,SA,ae,N,w,L⟩;simp only[aQ,aS,aR,true_and,and_true]at w;obtain⟨rfl,rfl,rfl,⟨rfl,rfl,rfl⟩,⟨rfl,rfl,rfl⟩,rfl,rfl,⟨rfl,rfl,rfl⟩,rfl,rfl,rfl,rfl,rfl⟩:=w;refine B9 (fun ak=>?_) (fun ai=>?_);{have p:i<rkM V v d:=by{unfold rkM;omega};have Q:(i+1)*rkM V v d=i*rkM V v d+rkM V v d:=by{rw[Nat.add_mul,cQ]};have an:(i+1)*rkM V v d<=rkM V v d*rkM V v d:=aO _ p;have ap:rkM V v d*rkM V v d<=6*6:=aK o o;have g:=Sr V v d p;obtain⟨a,e,c0⟩:=hz i p;obtain⟨E,B,X,e1,W,s1⟩:=s3.mon g;refine⟨a,e,o,o,_,C2 L.le c0,E,e1,o,by unfold nM at g;omega,_,_,_,by rw[aI];exact C2 L.le W,?_⟩;refine L.pushG B3g F1 Yx rfl (y:=(⟨B,(mon v d ((pvL V v d).getD i 0)).length,X⟩:HV)) (by rfl) ⟨rfl,s1,?_⟩ dc o fun BA2 af h5 L5=>?_;{have:=((Bl f.v1 f.v2 (show d<=6 from o)).val _ g).2.1;have:=f.v2;unfold bdr;omega};refine⟨fun L C=>∃(k:J) (SA:Option aF) (s:J),k<=rkM V v d/\L=[I (k:Z),I (rkM V v d:Z),I (rkM V v d:Z),.slice SA (i*rkM V v d+k) s]/\Lst2 MIr 38 SSr 9 M C BA2 af (i+1) (bdr V v d) SA s (i*rkM V v d+k) F,fun L _=>rkM V v d-(iAt L 0).toNat,⟨0,_,_,o,rfl,L5⟩,?_⟩;rintro z s0 al tA tn ao am ⟨k,SA,ae,hk,w,L6⟩;simp only[aQ,aS,aR,true_and,and_true]at w;obtain⟨rfl,rfl,rfl,rfl,rfl,rfl⟩:=w;refine B9 (fun ah=>?_) (fun ag=>?_);{have l:k<rkM V v d:=by{unfold rkM at *;omega};have u:=Sr V v d l;have hq:=V5 g u;obtain⟨G,e2,ac⟩:=hz k l;obtain⟨a3,e3,ad⟩:=r3.sat hq;have aq:nM v d*nM v d<=6*6:=aK r r;have ew:C4 (C4 (((pvL V v d).getD i 0:Z)*(nM v d:Z))+((pvL V v d).getD k 0:Z))=(((pvL V v d).getD i 0*nM v d+(pvL V v d).getD k 0:J):Z):=by{rw[<- cH,O5 o];exact O5 (n:=(pvL V v d).getD i 0*nM v d+(pvL V v d).getD k 0) o};refine⟨G,e2,o,o,_,C2 L6.le ac,?_⟩;dsimp only;rw[ew];refine⟨a3,e3,o,o,_,C2 L6.le ad,?_⟩;refine L6.swap.pushG F1 B3g G2 rfl (y:=T1 (We V v d) (nM v d) ((pvL V v d).getD i 0*nM v d+(pvL V v d).getD k 0)) (by rfl) ?_ dc o fun A5 c5 h5 L7=>?_;{rw[t i k l];obtain⟨E,G⟩:=dm1 (i:=(pvL V v d).getD i 0) u;show T1 _ _ _=_;unfold T1;rw[E,G];rfl};rw[wiS k o];exact⟨⟨k+1,_,_,o,rfl,L7.swap⟩,by simp only[U4];omega⟩};·obtain rfl:k=rkM V v d:=by{unfold rkM at *;omega};rw[wiS i o];rw[<- Q]at L6 ⊢;exact⟨⟨i+1,_,_,_,_,o,rfl,L6⟩,by simp only[U4];omega⟩};·obtain rfl:i=rkM V v d:=by{unfold rkM at *;omega};have y:FM C sA (rkM V v d) (rkM V v d) m (sqM V v d):=⟨hr,o,hr,o,by rw[hF];exact L.swap.row F1,fun i j N hj=>x.sz _ _ (Sr V v d N) (Sr V v d hj)⟩;have g3:=L.le;refine Yg (m:=m) (R.mono g3) y (C30 f.v1 f.v2 o d6 hD) hm1 ?_ o fun A6 c6 h6 l6 r6=>⟨_,_,_,_,_,_,rfl,hK _ _ _ _ _ (B6 O (B6 l2 (B6 H (B6 g3 l6)))) ((L.row B3g).mono B3g l6) r6⟩;have h1:(rkM V v d+rkM V v d)*m<=12*15:=aK o hm;have S:3^rkM V v d<=3^6:=bN dc o;have M:3^rkM V v d*bnd (rkM V v d+rkM V v d) m<=729*196:=aK S (by unfold bnd;omega);omega
end
section
variable {α β:Type} [E:Enc α] {R:aE->α->β->Prop}
def OwnK.fill(m:Mon R){P:bL}{t:aW}(one:P.cellsOf t=E.default.size/\(P.info? t).isSome=true){h h':aE}{b n k:J}{f:J->β}(w:OwnK R h h' b n k f)(hk:k<n){v:aT}{y:α}(hv:v.cells=(enc y).toArray)(hy:R h y (f k)){K:Unit->aE->Prop} (x:∀h2,OwnK R h h2 b n (k+1) f->K () h2):wpH P (aZ t (.pointer (some (aH ⟨b,0,none⟩ (k*E.default.size)))) v) K h':=by obtain⟨g,o,xs,a,s,d,c,e⟩:=w;exact OwnK.store m one a (B8 _) s d c e hk hv (m _ _ _ _ a hy) x
end
def t0:({data:=#[48] }:ByteArray)=bs (E7 0):=by rw[A2v];rfl
def t1:({data:=#[49] }:ByteArray)=bs (E7 1):=by decide +kernel
def zq:aT:=.agg #[I 0,I 0,.slice none 0 0,.slice none 0 0,I 0,I 0,.slice none 0 0]
section
variable {h:aE} {K:VP} {A B T FA:Option aF} {c cc tc fc n m m2 v d D:J} {V F:J->Y}
def Yk(hv:v<=6){l1:Z}{l2n l2c:J}(hK:∀b h',Own SSr h h' b v (fun _=>E7 0)->K (.slice (some ⟨b,0,none⟩) v v) h'):aN prog 38 #[.agg #[I (v:Z),I l1,.slice A l2n l2c]] h K:=by refine(fnk func38 [(3,[12],[],[I 0])] (own:=[1])) ?_;rw[iN (show ¬(0:Z)>(v:Z)from o),iN (show ¬(6:Z)<(v:Z)from o)];refine G7 G2 (zx:=([]:dC UInt8)) rfl o o o o ?_;intro b e;refine⟨_,_,_,rfl,fun L c=>∃k:J,k<=v/\L=[I k]/\OwnK SSr h c b v k (fun _=>E7 0),fun L _=>v-(iAt L 0).toNat,⟨0,o,rfl,OwnK.zero e⟩,?_⟩;rintro t c ⟨k,i,g,w⟩;obtain rfl:=sI1 g;refine B9 (fun d=>?_) (fun a=>?_);{refine⟨_,rfl,o,by simpa using d,?_⟩;refine w.fill F1 N9 (y:=E7 0) o (by rw[t0];rfl) rfl fun j f=>?_;rw[wiS k o];exact⟨⟨k+1,o,rfl,f⟩,by simp only[U4];omega⟩};·obtain rfl:k=v:=by{simp at a;omega};exact hK b c w.own
def psd(V:J->Y)(v d:J):Prop:=∀k,k<nM v d->Xr (mtx (fl (We V v d) (nM v d)) (nM v d)) (nM v d) k
def Yh{var:Z}{pos:Bool}(gl:Gl h)(f:FnV h A v D m V)(hm1:1<=m)(hm:m<=15)(hd3:d<=3)(fr:aP SSr h FA v (fun i=>E7 (F i)))(sF:∀i,i<v->Sz m2 (F i))(hm2:m2<=1000000) (h3:d<1\/D<2*d\/(v:Z)<=var->K (.tuple #[zq,I 3]) h) (h11:1<=d->2*d<=D->var<v->¬(rkM V v d=rkM V v (d-1)/\1<=rkM V v d/\(pos=true->psd V v d))->K (.tuple #[zq,I 11]) h) (hK:∀d',d=d'+1->2*d<=D->var<v->rkM V v d=rkM V v d'->1<=rkM V v d'->(pos=true->psd V v d)->∀BA bc IA ic h',h.le h'->aP MIr h' BA (rkM V v d') (bdr V v d')->aP SSr h' IA (rkM V v d'*rkM V v d') (T1 (ivM V v d') (rkM V v d'))->K (.tuple #[.agg #[I (v:Z),I (D:Z),.slice A (mo v D).length c,.slice BA (rkM V v d') bc,I (rkM V v d':Z),I (rkM V v d':Z),.slice IA (rkM V v d'*rkM V v d') ic],I 0]) h'): aN prog 37 #[.agg #[I (v:Z),I (D:Z),.slice A (mo v D).length c],I (d:Z),I var,.slice FA v fc,.bool pos] h K:=by have O:=f.v1;have X:=f.v2;have R:=f.d6;have y:C4 (cX (D:Z) 2)=((D/2:J):Z):=by{rw[bX o,C0 o o];omega};refine(fnk func37 [(4,[25],[(10,7)],[I 0,I 0,I 0,.slice none 0 0,.slice none 0 0,I 0,I 0,.slice none 0 0])] (own:=[5,10])) ?_;refine Eo gl f ⟨_,rfl,Br.nt ?_⟩;refine⟨fun L q=>∃k:J,k<=v/\L=[I (k:Z),I 0,I 0,.slice none 0 0,.slice none 0 0,I 0,I 0,.slice none 0 0]/\q=h,fun L _=>v-(iAt L 0).toNat,⟨0,o,rfl,rfl⟩,?_⟩;rintro z a0 a1 aA an N E G bc T S Q W B q ⟨k,M,p,rfl⟩;simp only[aQ,aS,aR,true_and,and_true]at p;obtain⟨rfl,rfl,rfl,⟨rfl,rfl,rfl⟩,⟨rfl,rfl,rfl⟩,rfl,rfl,rfl,rfl,rfl⟩:=p;refine B9 (fun w=>?_) (fun u=>?_);{have g:k<v:=o;obtain⟨a,e,c0⟩:=fr.sat g;refine⟨a,e,o,o,_,by rw[aI];exact c0,?_⟩;refine Qo gl (Tx.of (sF k g) o).len (fun _=>⟨_,rfl,Br.nt ?_⟩) (fun no=>absurd ⟨F k,rfl⟩ no);rw[wiS k o];exact⟨⟨k+1,o,rfl,rfl⟩,by simp only[U4];omega⟩};·rw[y];refine B9 (fun e=>h3 o) (fun n1=>B9 (fun e=>h3 o) (fun n2=>B9 (fun e=>h3 o) (fun C=>D8 (fun e=>absurd rfl e) (fun _=>?_))));obtain⟨d',rfl⟩:∃d',d=d'+1:=⟨d-1,o⟩;have b:2*(d'+1)<=D:=o;refine A74 gl f hm o hd3 b ⟨_,_,_,rfl,D8 (fun e=>absurd rfl e) (fun _=>?_)⟩;refine Br.not (D4 (fun n=>?_) (fun n=>h11 o b o fun x=>n (by rw[x.1])));have t:rkM V v (d'+1)=rkM V v d':=by{simpa using Int.ofNat.inj n};refine B9 (fun e=>h11 o b o fun x=>o) (fun H=>?_);refine Br.of (fun j=>?_) (fun j=>?_);{refine Wf gl f hm hd3 b (fun ok=>⟨_,_,rfl,D8 (fun e=>absurd rfl e) (fun _=>Br.nt ?_)⟩) (fun no=>⟨_,_,rfl,D8 (fun e=>absurd rfl e) (fun _=>Lk (h11 o b o fun x=>no (x.2.2 j)))⟩);exact Es gl f hm1 hm o o o fun BA bc IA ic h' l r s=>⟨_,_,_,_,_,_,_,_,_,_,_,_,_,_,rfl,hK d' rfl b o t o (fun _=>ok) BA bc IA ic h' l r s⟩};·exact Es gl f hm1 hm o o o fun BA bc IA ic h' l r s=>⟨_,_,_,_,_,_,_,_,_,_,_,_,_,_,rfl,hK d' rfl b o t o (fun x=>by rw[j]at x;cases x) BA bc IA ic h' l r s⟩
end
def A1k(a b:dC Z):dC Z:=opL (fun x y=>x+y) a b
def mpx(a b:dC Z)(j:J):dC Z:=(A1k a b).set j ((A1k a b).getD j 0+1)
def mi3(a b:dC Z)(j:J):J:=(C2n (mpx a b j)).toNat
def C50(v d D:J):Bool:=(aL (mo v d).length).all fun i=>(aL (mo v d).length).all fun k=>(aL v).all fun j=>decide ((A1k (mon v d i) (mon v d k)).length=v)&&decide (mpx (mon v d i) (mon v d k) j=mon v D (mi3 (mon v d i) (mon v d k) j))&&decide (mi3 (mon v d i) (mon v d k) j<(mo v D).length)&&decide (mi3 (mon v d i) (mon v d k) j=mi3 (mon v d k) (mon v d i) j)&&decide ((A1k (mon v d i) (mon v d k)).getD j 0<=100/\0<=(A1k (mon v d i) (mon v d k)).getD j 0)
def B3d:∀v:Fin 3,∀d:Fin 3,∀D:Fin 7,1<=v.val->2*d.val+1<=D.val->C50 v d D=true:=by decide +kernel
structure Mu3 (v d D i k j:J):Prop where
 len:(A1k (mon v d i) (mon v d k)).length=v
 eq:mpx (mon v d i) (mon v d k) j=mon v D (mi3 (mon v d i) (mon v d k) j)
 lt:mi3 (mon v d i) (mon v d k) j<(mo v D).length
 sym:mi3 (mon v d i) (mon v d k) j=mi3 (mon v d k) (mon v d i) j
 b:(A1k (mon v d i) (mon v d k)).getD j 0<=100/\0<=(A1k (mon v d i) (mon v d k)).getD j 0
def mu3{v d D i k j:J}(h1:1<=v)(h2:v<=2)(hd:d<=2)(hD:D<=6)(hdD:2*d+1<=D)(hi:i<nM v d)(hk:k<nM v d)(hj:j<v):Mu3 v d D i k j:=by have:=B3d ⟨v,o⟩ ⟨d,o⟩ ⟨D,o⟩ h1 hdD;simp only[C50,cC,decide_eq_true_eq,cO,cW]at this;obtain⟨⟨⟨⟨a,b⟩,c⟩,d⟩,e⟩:=this i hi k hk j hj;exact⟨a,b,c,d,e⟩
def C2e(V F:J->Y)(v d n i k:J):Y:=sm n fun j=>F j*V (mi3 (bdr V v d i) (bdr V v d k) j)
def B17(V F:J->Y)(v d:J):J->J->Y:=fun i k=>C2e V F v d v i k
def fmM(V F:J->Y)(v d:J):J->J->Y:=C67 (rkM V v d) (ivM V v d) (B17 V F v d)
structure Quo (h:aE) (A BA IA:Option aF) (v D m d:J) (V:J->Y):Prop where
 fn:FnV h A v D m V
 d2:d<=2
 dD:2*d+2<=D
 r1:1<=rkM V v d
 m1:1<=m
 m15:m<=15
 bd:aP MIr h BA (rkM V v d) (bdr V v d)
 iv:aP SSr h IA (rkM V v d*rkM V v d) (T1 (ivM V v d) (rkM V v d))
def Quo.mono{h h':aE}{A BA IA:Option aF}{v D m d:J}{V:J->Y}(l:h.le h')(q:Quo h A BA IA v D m d V):Quo h' A BA IA v D m d V:=⟨q.fn.mono l,q.d2,q.dD,q.r1,q.m1,q.m15,q.bd.mono B3g l,q.iv.mono F1 l⟩
def Quo.r6{h:aE}{A BA IA:Option aF}{v D m d:J}{V:J->Y}(q:Quo h A BA IA v D m d V):rkM V v d<=6:=by have a:=(B3a ⟨v,by have:=q.fn.v2;omega⟩ ⟨d,by have:=q.d2;omega⟩ q.fn.v1).2.2 q.d2;have b:=B8d V v d;change nM v d<=6 at a;omega
abbrev C2g(A BA IA:Option aF)(c bc ic v D r:J):aT:=.agg #[I (v:Z),I (D:Z),.slice A (mo v D).length c,.slice BA r bc,I (r:Z),I (r:Z),.slice IA (r*r) ic]
section
variable {h:aE} {K:VP} {A BA IA FA:Option aF} {c bc ic fc m mf mq v d D:J} {V F:J->Y}
def Fx(gl:Gl h)(q:Quo h A BA IA v D m d V)(fr:aP SSr h FA v (fun i=>E7 (F i)))(sF:∀i,i<v->Sz mf (F i))(hmf:15<=mf/\mf<=1000000) (hs:∀i k,i<rkM V v d->k<rkM V v d->Sz mq (ivM V v d i k)/\Sz mq (B17 V F v d i k)) (hq1:1<=mq) (hq:mq<=1000000) (hK:∀A' c' h',h.le h'->aP SSr h' A' (rkM V v d*rkM V v d) (T1 (fmM V F v d) (rkM V v d))->K (.tuple #[Lj (rkM V v d) (rkM V v d) A' (rkM V v d*rkM V v d) c',I 0]) h'): aN prog 173 #[C2g A BA IA c bc ic v D (rkM V v d),.slice FA v fc] h K:=by have v1:=q.fn.v1;have v2:=q.fn.v2;have d6:=q.fn.d6;have d2:=q.d2;have dD:=q.dD;have r1:=q.r1;have r6:=q.r6;have ay:rkM V v d*rkM V v d<=6*6:=aK r6 r6;refine(fnk func173 [(6,[44],[(8,3)],[I 0,I 0,I 0,.slice none 0 0]),(9,[51],[(8,3)],[I 0,I 0,I 0,.slice none 0 0]),(14,[15,63],[],[.string ⟨#[]⟩,I 0])] (own:=[2,4,8])) ?_;refine Ks v1 v2 d6 fun A1 c1 h1 l1 s1=>⟨_,_,_,_,rfl,D8 (fun e=>absurd rfl e) (fun _=>?_)⟩;have q1:=q.mono l1;have f1:=q1.fn;have fr1:=fr.mono F1 l1;have N:=gl.mono l1;generalize hG:T1 (B17 V F v d) (rkM V v d)=G;have W:∀i k,k<rkM V v d->G (i*rkM V v d+k)=E7 (B17 V F v d i k):=fun i k hk=>by{obtain⟨a1,a2⟩:=dm1 (i:=i) hk;rw[<- hG];unfold T1;rw[a1,a2]};refine⟨fun L r=>∃(i:J) (A':Option aF) (c':J),i<=rkM V v d/\L=[I (i:Z),I (rkM V v d:Z),I (rkM V v d:Z),.slice A' (i*rkM V v d) c']/\Lst SSr 9 h1 r A' c' (i*rkM V v d) G,fun L _=>rkM V v d-(iAt L 0).toNat,⟨0,none,0,oo,by rw[bF];rfl,by rw[bF];exact Lst.nil⟩,?_⟩;rintro z m0 m1 mA mn mc r ⟨i,A',c',hi,E,L⟩;simp only[aQ,aS,aR,true_and,and_true]at E;obtain⟨rfl,rfl,rfl,rfl,rfl,rfl⟩:=E;refine B9 (fun aq=>?_) (fun ax=>?_);{have Q:i<rkM V v d:=oo;have ad:(i+1)*rkM V v d=i*rkM V v d+rkM V v d:=by{rw[Nat.add_mul,cQ]};have ap:(i+1)*rkM V v d<=rkM V v d*rkM V v d:=aO _ Q;obtain⟨a,B,b2,e,c0,s0⟩:=q1.bd.mi Q;refine⟨_,e,oo,oo,_,_,_,by rw[aI];exact C2 L.le c0,?_⟩;refine⟨fun L r=>∃(k:J) (A':Option aF) (c':J),k<=rkM V v d/\L=[I (k:Z),I (rkM V v d:Z),I (rkM V v d:Z),.slice A' (i*rkM V v d+k) c']/\Lst SSr 9 h1 r A' c' (i*rkM V v d+k) G,fun L _=>rkM V v d-(iAt L 0).toNat,⟨0,mA,mc,oo,rfl,L⟩,?_⟩;rintro z m0 m1 ar au az aw ⟨k,A2,c2,hk,E,L2⟩;simp only[aQ,aS,aR,true_and,and_true]at E;obtain⟨rfl,rfl,rfl,rfl,rfl,rfl⟩:=E;refine B9 (fun ao=>?_) (fun an=>?_);{have H:k<rkM V v d:=oo;obtain⟨a3,B3,a6,e3,c3,ak⟩:=q1.bd.mi H;refine⟨_,e3,oo,oo,_,_,_,by rw[aI];exact C2 L2.le c3,?_⟩;have T:=Sr V v d Q;have X:=Sr V v d H;have qq:=Kr v1 v2 (show d<=3 from oo) d6 (show 2*d<=D from oo) T X;refine L2.call F1 fun g lg=>Wd (s0.mono lg) (ak.mono lg) (fun no=>by have:=qq.pair;unfold bdr at no;rw[no]at this;cases this) fun _ b M=>⟨Heap.le_put _ M,fun C _ L3=>⟨_,_,_,_,rfl,?_⟩⟩;have L4:=L3.weak (B6 lg (Heap.le_put _ M));have m3:∀j,j<v->Mu3 v d D ((pvL V v d).getD i 0) ((pvL V v d).getD k 0) j:=fun j p=>mu3 v1 v2 d2 d6 oo T X p;have u:=(m3 0 oo).len;have R:bdr V v d i=mon v d ((pvL V v d).getD i 0):=rfl;have aa:bdr V v d k=mon v d ((pvL V v d).getD k 0):=rfl;rw[<- R,<- aa]at u;change ∀j,j<v->_ at m3;generalize hP:opL (fun x y=>x+y) (bdr V v d i) (bdr V v d k)=P0 at *;have O:A1k (bdr V v d i) (bdr V v d k)=P0:=hP;rw[O]at u;have hx:C b=some (.cells (P0.map I).toArray 3):=L3.le _ _ (C3 _ _ _);have eh:C=blk .i64 3 (fun x=>if x=b then none else C x) b P0:=funext fun x=>by{unfold blk Heap.put;by_cases f:x=b;{rw[iP f,f];exact hx};·rw[iN f];show C x=if x=b then none else C x;rw[iN f]};generalize hH:(fun x=>if x=b then none else C x:aE)=hq9 at eh;have ai:hq9 b=none:=by{rw[<- hH];exact iP rfl};have ah:g.le hq9:=fun x o ho=>by{have f:x≠b:=fun q=>by{rw[q,M]at ho;cases ho};rw[<- hH];show(if x=b then none else C x)=_;rw[iN f];exact L3.le _ _ (by rw[C1 _ _ f];exact ho)};have lH:=B6 lg ah;have lB:∀zs,h1.le (blk .i64 3 hq9 b zs):=fun zs=>B6 lH (Eb ai zs);have ac:∀n,n<=v->Sz (5*mf) (C2e V F v d n i k):=fun n hn=>(B9w (w:=v) (m:=mf) (f2:=fun j=>V (mi3 (bdr V v d i) (bdr V v d k) j)) (fun j p=>sF j p) (fun j p=>(f1.sz _ (m3 j p).lt).mono (by have:=q.m15;omega)) n hn).mono (by have:n*(2*mf+1)<=2*(2*mf+1):=aO _ oo;omega);refine⟨fun L r=>∃(j:J),j<=v/\L=[.string (bs (E7 (C2e V F v d j i k))),I (j:Z)]/\r=C,fun L _=>v-(iAt L 1).toNat,⟨0,oo,by rw[t0];rfl,rfl⟩,?_⟩;rintro a0 z r ⟨j,p,E,rfl⟩;simp only[aQ,aS,Value.string.injEq,true_and,and_true]at E;obtain⟨rfl,rfl⟩:=E;have next:C4 ((j:Z)+1)=((j+1:J):Z)\/v<=j:=by{by_cases l:v<=j;{exact .inr l};·left;rw[C0]<;>omega};refine B9 (fun am=>?_) (fun al=>?_);{have l:j<v:=oo;have next:C4 ((j:Z)+1)=((j+1:J):Z):=next.resolve_right oo;obtain⟨a4,e4,c4⟩:=(fr1.mono F1 L4.le).sat l;refine⟨_,e4,oo,oo,_,by rw[aI];exact c4,?_⟩;dsimp only;rw[eq0];refine B9 (fun hz=>?_) (fun hz=>?_);{have:C2e V F v d (j+1) i k=C2e V F v d j i k:=by{show C2e V F v d j i k+F j*_=_;rw[hz,Rat.zero_mul,dB]};rw[next];exact⟨⟨j+1,oo,by rw[this],rfl⟩,by simp only[iAt,aM,aJ];omega⟩};·obtain⟨M3len,M3eq,M3lt,M3sym,M3b⟩:=m3 j l;rw[<- R,<- aa]at M3eq M3lt M3b;have e0:mpx (bdr V v d i) (bdr V v d k) j=P0.set j (P0.getD j 0+1):=by{unfold mpx;rw[O]};rw[e0]at M3eq;rw[O]at M3b;have sP:SlI .i64 r (some ⟨b,0,none⟩) P0:=by{rw[eh];exact Ck _ _ _ _ _};refine sP.load rfl oo oo ⟨_,rfl,oo,oo,?_⟩;rw[aI,eh];have ew:C4 (P0.getD j 0+1)=P0.getD j 0+1:=C0 oo oo;rw[ew];refine Bi Up oo ?_;have ag:P0.length=(mon v D (mi3 (bdr V v d i) (bdr V v d k) j)).length:=by{rw[<- M3eq,cR]};have t:SlI .i64 (blk .i64 3 hq9 b (P0.set j (P0.getD j 0+1))) (some ⟨b,0,none⟩) (P0.set j (P0.getD j 0+1)):=Ck _ _ _ _ _;have av:P0.length=P0.length:=rfl;have s:=lB (P0.set j (P0.getD j 0+1));have ae:=t;rw[M3eq]at ae;have af:∀{n:J} {K:VP},n=(mon v D (mi3 (bdr V v d i) (bdr V v d k) j)).length->K (.tuple #[I (mi3 (bdr V v d i) (bdr V v d k) j:Z),.bool true]) (blk .i64 3 hq9 b (P0.set j (P0.getD j 0+1)))->aN prog 239 #[.slice A1 (mo v D).length c1,.slice (some ⟨b,0,none⟩) n n,.func (.func 240) #[] #[]] (blk .i64 3 hq9 b (P0.set j (P0.getD j 0+1))) K:=fun {n K} hn hk=>by{subst hn;exact Oh v1 v2 d6 ((s1.mono s)) M3lt (by rw[M3eq]at t ⊢;exact t) hk};refine af ag ⟨_,_,rfl,?_⟩;obtain⟨a5,e5,c5⟩:=(f1.row.mono F1 s).sat M3lt;refine⟨_,e5,oo,oo,_,by rw[aI];exact c5,?_⟩;have S:=(f1.sz _ M3lt).mono (show m<=5*mf by have:=q.m15;omega);refine Dl (m:=5*mf) (N.mono s) (Tx.of ((sF j l).mono oo) oo) (Tx.of S oo) oo ⟨_,rfl,?_⟩;rw[F3,F3];have aj:Sz (10*mf) (F j*V (mi3 (bdr V v d i) (bdr V v d k) j)):=(((sF j l).mono (show mf<=5*mf from oo)).mul S).mono oo;refine Is (m:=10*mf) (N.mono s) (Tx.of ((ac j oo).mono oo) oo) (Tx.of aj oo) oo ⟨_,rfl,?_⟩;rw[F3,F3];refine t.load (by rw[cR]) oo oo ⟨_,rfl,oo,oo,?_⟩;have eg:(P0.set j (P0.getD j 0+1)).getD j 0=P0.getD j 0+1:=by{simp[List.getD,List.getElem?_set,show j<P0.length from oo]};rw[aI,eg,show C4 (P0.getD j 0+1-1)=P0.getD j 0 by rw[C0]<;>omega];refine Bi Up (by rw[cR];omega) ?_;have e9:(P0.set j (P0.getD j 0+1)).set j (P0.getD j 0)=P0:=by{rw[List.set_set];refine List.ext_getElem (by simp) fun n h1 h2=>?_;rw[List.getElem_set];split;{rename_i q;subst q;simp[List.getD,h2]};·rfl};rw[e9,next];exact⟨⟨j+1,oo,rfl,rfl⟩,by simp only[iAt,aM,aJ];omega⟩};·obtain rfl:j=v:=oo;refine L4.push F1 G2 rfl (y:=E7 (B17 V F j d i k)) (by rfl) (W i k H).symm dc oo fun A5 c5 h5 L5=>?_;rw[wiS k oo];exact⟨⟨k+1,_,_,oo,rfl,L5⟩,by simp only[U4];omega⟩};·obtain rfl:k=rkM V v d:=oo;rw[wiS i oo];rw[<- ad]at L2 ⊢;exact⟨⟨i+1,_,_,oo,rfl,L2⟩,by simp only[U4];omega⟩};·obtain rfl:i=rkM V v d:=oo;have x:FM r IA (rkM V v d) (rkM V v d) mq (ivM V v d):=⟨r1,oo,r1,oo,q1.iv.mono F1 L.le,fun i j hi p=>(hs i j hi p).1⟩;have y:FM r mA (rkM V v d) (rkM V v d) mq (B17 V F v d):=⟨r1,oo,r1,oo,by rw[hG];exact L.row F1,fun i j hi p=>(hs i j hi p).2⟩;refine Zo (m:=mq) (N.mono L.le) x y hq1 ?_ fun A6 c6 h6 l6 r6=>⟨_,_,_,_,_,_,rfl,hK _ _ _ (B6 l1 (B6 L.le l6)) r6⟩;have:rkM V v d*(2*mq+1)<=6*(2*mq+1):=aO _ r6;omega
end
section
variable {α β:Type} [E:Enc α] {R:aE->α->β->Prop}
def Own.set(m:Mon R){P:bL}{t:aW}(one:P.cellsOf t=E.default.size/\(P.info? t).isSome=true){h h':aE}{b n k:J}{f:J->β}(w:Own R h h' b n f)(hk:k<n){v:aT}{y:α}(hv:v.cells=(enc y).toArray){z:β}(hy:R h y z){K:Unit->aE->Prop} (x:∀h2,Own R h h2 b n (fun i=>if i=k then z else f i)->K () h2):wpH P (aZ t (.pointer (some (aH ⟨b,0,none⟩ (k*E.default.size)))) v) K h':=by obtain⟨g,o,xs,a,s,j,p,q⟩:=w.ex;refine P7 one hv s j oo ?_;intro h2 l r e d c;exact x h2 ⟨g,l,_,a,d,c,by simpa using p,q.upd oo (m _ _ _ _ a hy)⟩
end
section
variable {h:aE} {N:J}
def A3m{K:VP}{b0:J}(hb0:h b0=none)(hN:1<=N)(hl:N<=1000000)(hK:∀b h',(h.put b0 (.cells #[.string ({data:=#[48] }:ByteArray)] 9)).le h'->Own SSr h h' b N (fun _=>E7 0)->K (.slice (some ⟨b,0,none⟩) N N) h'): aN prog 102 #[.slice (some ⟨b0,0,none⟩) 1 1,I (N:Z)] (h.put b0 (.cells #[.string ({data:=#[48] }:ByteArray)] 9)) K:=by refine Su (SlV.new _ _ _ _ _ _ (fun i v a=>by simpa using a)) hN hl fun b h' d s e=>hK b h' s.le ⟨_,d,aU N (E7 0),Heap.le_put _ hb0,s,⟨_,by rw[e,A0z,<- t0]⟩,by simp,fun i c=>⟨_,by rw[List.getElem?_replicate,iP c],rfl⟩⟩
end
structure MV where
 r:Z
 c:Z
 A:Option aF
 n:J
 cap:J
instance:Enc MV:=⟨⟨fun w=>[I w.r,I w.c,.slice w.A w.n w.cap],3,fun _=>rfl,fun w v hv=>by simp at hv;rcases hv with rfl|rfl|rfl<;>rfl⟩⟩
def MVr(r:J):aE->MV->(J->Y)->Prop:=fun h w x=>w.r=r/\w.c=1/\w.n=r/\aP SSr h w.A r (fun i=>E7 (x i))
def Wc(r:J):Mon (MVr r):=fun _ _ _ _ l i=>⟨i.1,i.2.1,i.2.2.1,i.2.2.2.mono F1 l⟩
def RowV.mv{h:aE}{A:Option aF}{n r:J}{f:J->J->Y}(x:aP (MVr r) h A n f){i:J}(hi:i<n):∃a B cc,A=some a/\h.cell? (aH (aH a (i*3)) 0)=some (I (r:Z))/\h.cell? (aH (aH a (i*3)) 1)=some (I 1)/\h.cell? (aH (aH a (i*3)) 2)=some (.slice B r cc)/\aP SSr h B r (fun k=>E7 (f i k)):=by obtain⟨a,w,e,⟨d,j,g,c⟩,b⟩:=x.at dc hi;exact⟨a,w.A,w.cap,e,by rw[<- d];exact b 0 _ rfl,by rw[<- j];exact b 1 _ rfl,by rw[<- g];exact b 2 _ rfl,c⟩
def kpw(M:J->J->Y)(r:J):J->J->Y
 |0=>fun i=>if i=0 then 1 else 0
 |k+1=>fun i=>sm r fun t=>M i t*kpw M r k t
section
variable {h:aE} {K:VP} {A:Option aF} {c r mq:J} {M:J->J->Y}
def Tl(gl:Gl h)(x:FM h A r r mq M)(hr:r<=6)(hs:∀k,k<=r->∀i,i<r->Sz mq (kpw M r k i))(hq1:1<=mq)(hq:mq<=1000000) (hK:∀KA kc h',h.le h'->aP (MVr r) h' KA (r+1) (kpw M r)->K (.tuple #[.agg #[.slice KA (r+1) kc],I 0]) h'): aN prog 174 #[Lj r r A (r*r) c] h K:=by have B:=x.r1;refine(fnk func174 [(5,[23],[(2,1),(5,1)],[I 0,.slice none 0 0,.slice none 0 0])] (os:=[(1,[0,1,3,4,7,2,5,6,8]),(6,[0,1,2,3,4,5,6,7,8,13,9,10,11,12,14,15])]) (own:=[1,2,4,5,6])) ?_;refine T6 G2 rfl fun b0 l=>⟨_,_,_,rfl,Heap.le_put _ l,?_⟩;refine A3m l B o fun b h1 lb own=>⟨_,_,_,rfl,lb,_,rfl,o,o,?_⟩;refine own.set F1 N9 (k:=0) o (y:=E7 1) (by rw[t1];rfl) (z:=E7 1) rfl fun u d=>?_;have Q:=d.le;have m:aP SSr u (some ⟨b,0,none⟩) r (fun i=>E7 (kpw M r 0 i)):=(d.vis F1).congr fun i _=>by{show(if i=0 then E7 1 else E7 0)=E7 (if i=0 then 1 else 0);split<;>rfl};refine Qh (R:=MVr r) (f:=kpw M r) C2y (y:=(⟨(r:Z),1,some ⟨b,0,none⟩,r,r⟩:MV)) (by rfl) dc ⟨rfl,rfl,rfl,m⟩ fun b2 h3 l3 L=>⟨_,_,_,rfl,?_⟩;refine⟨fun L F=>∃(k:J) (A':Option aF) (p:J),k<=r/\L=[I (k:Z),.slice none 0 0,.slice A' (k+1) p]/\Lst (MVr r) 92 u F A' p (k+1) (kpw M r),fun L _=>r-(iAt L 0).toNat,⟨0,_,_,o,rfl,L⟩,?_⟩;rintro z zA zn zc kA kn kc F ⟨k,A',p,hk,E,L⟩;simp only[aQ,aS,aR,true_and,and_true]at E;obtain⟨rfl,⟨rfl,rfl,rfl⟩,rfl,rfl,rfl⟩:=E;refine B9 (fun W=>?_) (fun S=>?_);{have aa:k<r:=o;have ew:C4 (((k+1:J):Z)-1)=(k:Z):=by{rw[C0]<;>omega};rw[ew,aI];obtain⟨g,D,Lg,cell⟩:=L.base dc;obtain⟨a,w,e,⟨V,w2,X,T⟩,s⟩:=cell k o;have g0:=s 0 _ rfl;have H:=s 1 _ rfl;have q:=s 2 _ rfl;rw[V]at g0;rw[w2]at H;rw[X]at q;refine⟨a,e,o,o,_,_,_,_,_,g0,H,q,?_⟩;have y:FM g w.A r 1 mq (fun i _=>kpw M r k i):=⟨B,o,aC _,o,(by rw[Nat.mul_one];exact T.congr fun i _=>by unfold T1;rw[Nat.div_one]),fun i j O hj=>hs k o i O⟩;have G:=B6 Q D;have N:r*(2*mq+1)<=6*(2*mq+1):=aO _ hr;refine Lg.call (Wc r) fun g' n=>?_;have t:=fun K'=>Zo (K:=K') (c:=c) (c2:=w.cap) (gl.mono (B6 G n)) (x.mono (B6 G n)) (y.mono n) hq1 o;simp only[Nat.mul_one]at t;refine t _ fun A5 c5 q C r5=>⟨C,fun h5 l6 L5=>⟨_,_,_,_,_,_,rfl,l6,D8 (fun e=>absurd rfl e) (fun _=>?_)⟩⟩;refine L5.push (Wc r) C2y rfl (y:=(⟨(r:Z),1,A5,r,c5⟩:MV)) (by rfl) ⟨rfl,rfl,rfl,r5.congr fun i O=>?_⟩ dc o fun A6 c6 h6 L6=>?_;{show E7 (C67 r M (fun i _=>kpw M r k i) (i/1) (i%1))=E7 (kpw M r (k+1) i);rw[Nat.div_one];rfl};rw[wiS k o];exact⟨⟨k+1,_,_,o,rfl,L6.weak (B6 D (B6 n C))⟩,by simp only[U4];omega⟩};·obtain rfl:k=r:=o;exact hK _ _ _ (B6 Q L.le) (L.row (Wc k))
end
def SB(r m:J):Prop:=∀n,n<=r->2*(3^n*bnd (n+1) m)+1<=40000000/\7^n*m<=40000000
def A2f(f:J->J->Y):J->J->Y:=fun i j=>f j i
section
variable {h:aE} {K:VP} {A KA:Option aF} {c kc nk n r mq:J} {M:J->J->Y} {f:J->J->Y}
def Bn(x:aP (MVr r) h KA nk f)(h1:1<=nk)(hn:n<=nk)(hr:r<=64)(hnk:nk<=64)(hK:∀A' c' h',h.le h'->aP SSr h' A' (r*n) (T1 (A2f f) n)->K (Lj r n A' (r*n) c') h'): aN prog 96 #[.agg #[.slice KA nk kc],I (n:Z)] h K:=by refine(fnk func96 [(4,[18],[(6,3)],[I 0,I 0,I 0,.slice none 0 0]),(7,[22],[(6,3)],[I 0,I 0,I 0,.slice none 0 0])] (own:=[2,4,6]) (wr:=[1000000000])) ?_;obtain⟨a,B,cc,e,g0,_⟩:=x.mv (i:=0) o;refine⟨a,e,o,o,_,g0,?_⟩;generalize hG:T1 (A2f f) n=G;have b:∀i k,k<n->G (i*n+k)=E7 (f k i):=fun i k q=>by{obtain⟨u,w⟩:=dm1 (i:=i) q;rw[<- hG];unfold T1 A2f;grind};rw[hG]at hK;have C:r*n<=64*64:=aK hr o;refine⟨fun L d=>∃(i:J) (A':Option aF) (c':J),i<=r/\L=[I (i:Z),I (r:Z),I (n:Z),.slice A' (i*n) c']/\Lst SSr 9 h d A' c' (i*n) G,fun L _=>r-(iAt L 0).toNat,⟨0,none,0,o,gz0,by rw[bF];exact Lst.nil⟩,?_⟩;rintro z S V W mn O d ⟨i,A',c',hi,m,L⟩;obtain⟨rfl,rfl,rfl,rfl,rfl,rfl⟩:=m;refine B9 (fun F=>?_) (fun A=>?_);{have c:i<r:=o;have j:(i+1)*n=i*n+n:=gz0;have N:(i+1)*n<=r*n:=aO _ c;refine⟨fun L d=>∃(k:J) (A':Option aF) (c':J),k<=n/\L=[I (k:Z),I (r:Z),I (n:Z),.slice A' (i*n+k) c']/\Lst SSr 9 h d A' c' (i*n+k) G,fun L _=>n-(iAt L 0).toNat,⟨0,W,O,o,rfl,L⟩,?_⟩;rintro z S V D E T R ⟨k,A2,c2,q,m,L2⟩;obtain⟨rfl,rfl,rfl,rfl,rfl,rfl⟩:=m;refine B9 (fun t=>?_) (fun s=>?_);{have g:k<n:=o;obtain⟨u,B1,H,X,_,_,M,p⟩:=x.mv (i:=k) o;obtain⟨w,Q,l⟩:=p.sat c;refine⟨u,X,o,o,_,_,_,by exact C2 L2.le M,w,Q,o,o,_,by exact C2 L2.le l,?_⟩;refine L2.pushG F1 G2 rfl (y:=E7 (f k i)) (by rfl) (b i k g).symm dc o fun A5 c5 h5 L5=>?_;rw[wiS k o];exact⟨⟨k+1,_,_,o,rfl,L5⟩,by simp only[U4];omega⟩};·obtain rfl:k=n:=o;rw[wiS i o];rw[<- j]at L2 ⊢;exact⟨⟨i+1,_,_,o,rfl,L2⟩,by simp only[U4];omega⟩};·obtain rfl:i=r:=o;exact hK _ _ _ L.le (L.row F1)
def A90(r1:1<=r)(hr:r<=6)(hn1:1<=n)(hn:n<=r+1)(hs:∀k,k<=r->∀i,i<r->Sz mq (f k i))(x:aP SSr h A (r*n) (T1 (A2f f) n)):FM h A r n mq (A2f f):=⟨r1,o,hn1,o,x,fun i j a b=>hs j o i a⟩
def Nq(M:J->J->Y)(r:J):J:=(ecE (A2f (kpw M r)) r r).cs.length
def C2m(M:J->J->Y)(r:J):J->Y:=A9o (fl (A2f (kpw M r)) (Nq M r)) (kpw M r (Nq M r)) r (Nq M r)
def Li(M:J->J->Y)(r:J):J->Y:=fun i=>if i=Nq M r then 1 else-C2m M r i
def C1v(M:J->J->Y)(r:J):Nq M r<=r:=(Dw (A2f (kpw M r)) r r).2
def SB.rank{n:J}(s:SB r mq)(hn:n<=r):2*(3^n*bnd n mq)+1<=100000000:=by have b:=(s n hn).1;have a:bnd n mq<=bnd (n+1) mq:=by{unfold bnd;grind};have:=Nat.mul_le_mul_left (3^n) a;omega
def Wr(gl:Gl h)(x:FM h A r r mq (A2f (kpw M r)))(sb:SB r mq)(hq:mq<=1000000)(hK:K (.tuple #[I (Nq M r:Z),I 0]) h):aN prog 95 #[Lj r r A (r*r) c] h K:=Vz gl x (sb.rank (aC _)) o hK
def Yi(gl:Gl h)(x:aP (MVr r) h KA (r+1) (kpw M r))(r1:1<=r)(hr:r<=6)(hs:∀k,k<=r->∀i,i<r->Sz mq (kpw M r k i))(hq1:1<=mq)(hq:mq<=1000000)(sb:SB r mq)(hd:1<=Nq M r)(ok:Kc (fl (A2f (kpw M r)) (Nq M r)) (kpw M r (Nq M r)) r (Nq M r)) (hx:∀i,i<Nq M r->Sz 10000000 (C2m M r i)) (hK:∀A' c' h',h.le h'->aP SSr h' A' (Nq M r+1) (fun i=>E7 (Li M r i))->K (.tuple #[.slice A' (Nq M r+1) c',I 0]) h'): aN prog 40 #[.agg #[.slice KA (r+1) kc]] h K:=by have d:=C1v M r;refine(fnk func40 [(10,[49],[],[I 0])] (os:=[(5,[0,1,3,4,5,6,7,8,2,9,10,11,12,13,14,15,16])]) (own:=[1])) ?_;obtain⟨a,B,W,e,g0,_⟩:=x.mv (i:=0) o;refine⟨a,e,o,o,_,g0,?_⟩;refine Bn x o o o o fun A1 c1 h1 f E=>⟨_,_,_,_,_,rfl,?_⟩;refine Wr (gl.mono f) (A90 r1 hr r1 o hs E) sb hq ⟨_,_,rfl,D8 (fun e=>absurd rfl e) (fun _=>?_)⟩;obtain⟨S,B2,T,H,_,_,C,m⟩:=(x.mono (Wc r) f).mv (i:=Nq M r) o;refine⟨S,H,o,o,_,_,_,C,?_⟩;refine Bn (x.mono (Wc r) f) o (show Nq M r<=r+1 from o) o o fun A3 c3 h3 l G=>⟨_,_,_,_,_,rfl,l,?_⟩;refine Jj (gl.mono (B6 f l)) (A90 r1 hr hd o hs G) (m.mono F1 l) (fun i s=>hs _ d i s) ok hq1 ⟨(sb _ d).1,(sb _ (aC _)).1,(sb _ d).2,(sb _ (aC _)).2⟩ fun A5 c5 B5 V d5 F p N=>⟨_,_,_,_,_,_,_,rfl,p,D8 (fun e=>absurd rfl e) (fun _=>?_)⟩;rw[show C4 (((Nq M r:J):Z)+1)=((Nq M r+1:J):Z) by rw[C0]<;>omega];refine G7 G2 (zx:=([]:dC UInt8)) rfl o o o o fun b A=>⟨_,_,_,rfl,?_⟩;have n:∀i,i<Nq M r->Li M r i= - C2m M r i:=fun i s=>by{unfold Li;grind};refine⟨fun L q=>∃k:J,k<=Nq M r/\L=[I k]/\OwnK SSr F q b (Nq M r+1) k (fun i=>E7 (Li M r i)),fun L _=>Nq M r-(iAt L 0).toNat,⟨0,o,rfl,OwnK.zero A⟩,?_⟩;rintro z q ⟨k,X,eL,w⟩;obtain rfl:z=(k:Z):=gz0;have g:=B6 f (B6 l p);refine B9 (fun u=>?_) (fun t=>?_);{have c:k<Nq M r:=o;obtain⟨Q,D,c6⟩:=(N.mono F1 w.le).sat c;refine⟨Q,D,o,o,_,by exact c6,?_⟩;have O:=hx k c;refine B1s (gl.mono (B6 g w.le)) (Tx.of O o).len ⟨_,rfl,_,rfl,o,o,?_⟩;rw[F3,aI];refine w.fill F1 N9 (y:=E7 (Li M r k)) o (by rw[n k c];rfl) rfl fun R j=>?_;rw[wiS k o];exact⟨⟨k+1,o,rfl,j⟩,by simp only[U4];omega⟩};·obtain rfl:k=Nq M r:=o;refine⟨_,rfl,o,o,?_⟩;refine w.fill F1 N9 (y:=E7 (Li M r (Nq M r))) o (by rw[t1];unfold Li;rw[iP rfl];rfl) rfl fun R j=>?_;exact hK _ _ _ (B6 g j.le) (j.own.vis F1)
end
structure KB (V F:J->Y) (v d mq:J):Prop where
 iv:∀ i k,i<rkM V v d->k<rkM V v d->Sz mq (ivM V v d i k)
 vl:∀ i k,i<rkM V v d->k<rkM V v d->Sz mq (B17 V F v d i k)
 fm:∀ i k,i<rkM V v d->k<rkM V v d->Sz mq (fmM V F v d i k)
 pw:∀ k,k<=rkM V v d->∀ i,i<rkM V v d->Sz mq (kpw (fmM V F v d) (rkM V v d) k i)
def frm(c:J):J->Y
 |0=>1
 |i+1=>(c:Y)*frm c i
def Xp{h h':aE}{A:Option aF}{xs:dC aT}(s:SlV h A xs)(hc:∀a v,v∈xs->h.cell? a=some v->h'.cell? a=some v):SlV h' A xs:=by rcases s with rfl|⟨a,rfl,e⟩;{exact .inl rfl};·exact .inr ⟨a,rfl,fun i v b=>hc _ _ (List.mem_of_getElem? b) (e i v b)⟩
section
variable {h:aE} {K:VP} {A BA IA FA:Option aF} {c bc ic fc m mf mq v d D:J} {V F:J->Y}
def A1w(gl:Gl h)(q:Quo h A BA IA v D m d V)(fr:aP SSr h FA v (fun i=>E7 (F i)))(sF:∀i,i<v->Sz mf (F i))(hmf:15<=mf/\mf<=1000000)(kb:KB V F v d mq)(hq1:1<=mq)(hq:mq<=1000000) (hK:∀KA kc h',h.le h'->aP (MVr (rkM V v d)) h' KA (rkM V v d+1) (kpw (fmM V F v d) (rkM V v d))->K (.tuple #[.agg #[.slice KA (rkM V v d+1) kc],I 0]) h'): aN prog 94 #[C2g A BA IA c bc ic v D (rkM V v d),.slice FA v fc] h K:=by refine(fnk func94 (own:=[2,4,6])) ?_;refine Fx gl q fr sF hmf (fun i k f a=>⟨kb.iv i k f a,kb.vl i k f a⟩) hq1 hq fun A1 c1 p b l=>⟨_,_,_,_,_,_,rfl,D8 (fun e=>absurd rfl e) (fun _=>?_)⟩;have:=q.r6;exact Tl (gl.mono b) ⟨q.r1,o,q.r1,o,l,kb.fm⟩ q.r6 kb.pw hq1 hq fun KA kc n j g=>⟨_,_,_,_,rfl,hK _ _ _ (B6 b j) g⟩
end
def C8c:dC aT->J
 | [.string b]=>(rv b.data.toList).num.toNat
 |_=>0
def B62(k:J):C8c [.string (bs (E7 (k:Y)))]=k:=by show(rv (bs (E7 (k:Y))).data.toList).num.toNat=k;have:(bs (E7 (k:Y))).data.toList=E7 (k:Y):=by{simp[bs]};rw[this,F3];simp
def Uq{k:J}(hk:k<=1000):Sz 10 (k:Y):=by refine⟨?_,?_⟩;{show((k:Y).num).natAbs<_;simp;omega};·show(((k:Y).den:J):Z).natAbs<_;simp
def B8a{k:J}(hk:k<=1000):∀i,Sz (10*i+1) (frm k i):=by
 intro i
 induction i with
 |zero=>exact⟨ZB.one o,ZB.one o⟩
 |succ i ih=>exact((Uq hk).mul ih).mono o
def A6o{h g0:aE}{f0:aF}{v N:J}(hg:Gl g0)(e0:g0.cell? f0=some (I (v:Z)))(h1:1<=v)(h2:v<=6)(hN:N<=999){B:dC aT->aE->(aE->Prop)->(aE->Prop)->Prop}{K KR:aE->Prop}(jq9:J->aE->Prop)(JR:aE->Prop)(hJ:jq9 0 h)(hle:∀k h,jq9 k h->g0.le h)
 (hB:∀k h1 h2 A c,k<=N->jq9 k h1->h1.le h2->aP SSr h2 A v (fun i=>E7 (frm k i))->B [.slice A v c] h2 (fun h3=>k<N/\jq9 (k+1) h3) JR) (hK:∀h1,JR h1->KR h1):A9c prog (.func (.func 172) #[] #[.pointer (some f0)]) h B K KR:=by
 refine⟨172,#[],#[.pointer (some f0)],rfl,Yr,?_⟩;intro l rec hl p;have M:(#[] ++ #[.func (.yield l) #[] #[]] ++ #[.pointer (some f0)]:Array aT)=#[.func (.yield l) #[] #[],.pointer (some f0)]:=by simp
 rw[M];refine(fnk func172 [(2,[3],[],[.string ⟨#[]⟩]),(4,[4,10],[],[.slice none 0 0,I 0])]) ?_;refine⟨fun L g=>∃(k:J) (h1:aE),k<=N/\L=[.string (bs (E7 (k:Y)))]/\h1 l=none/\g=h1.put l (.loop rec)/\jq9 k h1,fun L _=>N+1-C8c L,⟨0,h,oo,by rw[t0];rfl,hl,rfl,hJ⟩,?_⟩;rintro cs g ⟨k,n,hk,F,w,rfl,V⟩;obtain rfl:cs=bs (E7 (k:Y)):=by simpa using F
 have S:=B6 (hle k n V) (Heap.le_put (.loop rec) w);refine Qh (R:=SSr) (f:=fun i=>E7 (frm k i)) G2 (y:=E7 1) (by rw[t1];rfl) dc rfl fun b h3 l3 L=>⟨_,_,_,rfl,_,C2 (B6 S l3) e0,?_⟩;refine⟨fun L g=>∃(j:J) (A':Option aF) (D:J),j+1<=v/\L=[.slice A' (j+1) D,I (j:Z)]/\Lst SSr 9 (n.put l (.loop rec)) g A' D (j+1) (fun i=>E7 (frm k i)),fun L _=>v-(iAt L 1).toNat,⟨0,_,_,h1,rfl,L⟩,?_⟩;rintro Q fn fc z g ⟨j,A',D,hj,F,L⟩;obtain⟨⟨rfl,rfl,rfl⟩,rfl⟩:=sI2 F;rw[show C4 ((v:Z)-1)=((v-1:J):Z) by rw[C0]<;>omega];refine B9 (fun X=>?_) (fun W=>?_)
 ·rw[show C4 (((j+1:J):Z)-1)=(j:Z) by rw[C0]<;>omega];obtain⟨a,M,c0⟩:=(L.row F1).sat (show j<j+1 from oo);refine⟨a,M,oo,oo,_,c0,?_⟩;have sf:=(B8a (k:=k) oo j).mono (show 10*j+1<=100 from oo);refine Dl (m:=100) (hg.mono (B6 S L.le)) (Tx.of ((Uq oo).mono oo) oo) (Tx.of sf oo) oo ⟨_,rfl,?_⟩;rw[F3,F3];refine L.push F1 G2 rfl (y:=E7 (frm k (j+1))) (by rfl) rfl dc oo fun A5 c5 C L5=>?_;rw[wiS j oo];exact⟨⟨j+1,_,_,oo,rfl,L5⟩,by simp only[iAt,aM,aJ];omega⟩
 ·obtain rfl:v=j+1:=oo;have T:g l=some (.loop rec):=L.le _ _ (C3 _ _ _);let hq9:aE:=fun x=>if x=l then none else g x
  have eh:g=hq9.put l (.loop rec):=funext fun x=>by
   unfold Heap.put;by_cases d:x=l;·rw[iP d,d];exact T
   ·rw[iN d];show g x=if x=l then none else g x;rw[iN d]
  have H:hq9 l=none:=iP rfl
  have lH:n.le hq9:=fun x o G=>by
   have d:x≠l:=fun q=>by rw[q,w]at G;cases G
   show(if x=l then none else g x)=_;rw[iN d];exact L.le _ _ (by rw[C1 _ _ d];exact G)
  have row:aP SSr hq9 Q (j+1) (fun i=>E7 (frm k i)):=by
   obtain⟨xs,s,hn,r⟩:=L.row F1;refine⟨xs,Xp s fun a u _ e=>?_,hn,r⟩;unfold Heap.cell? at e ⊢;by_cases d:a.block=l;·rw[d,T]at e;cases e
   ·show(match (if a.block=l then none else g a.block)with|some (.cells c _ _)=>_|_=>_)=_
    rw[iN d];exact e
  rw[eh];refine(p _ hq9 (fun h3=>k<N/\jq9 (k+1) h3) JR H (hB k n hq9 Q fc hk V lH row)).mono ?_;rintro r h4 ⟨C,t,⟨rfl,rfl,aa,O⟩|⟨rfl,rfl,jr⟩⟩
  ·refine⟨_,rfl,Br.nt ?_⟩;have E:=B6 (hle _ C O) (Heap.le_put (.loop rec) t);rw[t1];refine Is (m:=100) (hg.mono E) (Tx.of ((Uq oo).mono oo) oo) (Tx.of (m:=100) ⟨ZB.one oo,ZB.one oo⟩ oo) oo ⟨_,rfl,?_⟩;rw[F3,F3,show((k:Y)+1)=((k+1:J):Y) by simp];exact⟨⟨k+1,C,oo,rfl,t,rfl,O⟩,by simp only[B62];omega⟩
  ·exact⟨_,rfl,Lk ⟨C,t,.inr ⟨rfl,hK _ jr⟩⟩⟩
def Pres(h h':aE):Prop:=∀a v,v ≠ .slice none 0 0->v≠I 0->h.cell? a=some v->h'.cell? a=some v
def Pres.put{h:aE}{b:J}{u x:aT}{e e':aW}(hb:h b=some (.cells #[u] e))(hu:u= .slice none 0 0\/u=I 0):Pres h (h.put b (.cells #[x] e')):=fun a v f g c=>by unfold Heap.cell? at c ⊢;by_cases d:a.block=b;{grind};·rw[C1 _ _ d];exact c
def RowV.presS{h h':aE}{A:Option aF}{n:J}{f:J->dC UInt8}(p:Pres h h')(x:aP SSr h A n f):aP SSr h' A n f:=by obtain⟨xs,s,d,r⟩:=x;refine⟨xs,Xp s fun a v c e=>?_,d,r⟩;obtain⟨w,_,b⟩:=List.mem_flatMap.1 c;obtain rfl:v= .string (bs w):=List.mem_singleton.1 b;exact p _ _ (by simp) (by simp) e
def RowV.presM{h h':aE}{A:Option aF}{n r:J}{f:J->J->Y}(p:Pres h h')(hr:1<=r)(x:aP (MVr r) h A n f):aP (MVr r) h' A n f:=by obtain⟨xs,s,y,q⟩:=x;refine⟨xs,Xp s fun a v u e=>?_,y,fun i t=>?_⟩;{obtain⟨w,j,d⟩:=List.mem_flatMap.1 u;obtain⟨i,t,B⟩:=List.mem_iff_getElem.1 j;obtain⟨b,D,m,k,l,g⟩:=q i o;obtain rfl:b=w:=gz0;obtain⟨z,C,_⟩:=g.sat (i:=0) o;have d:v∈([I b.r,I b.c,.slice b.A b.n b.cap]:dC aT):=d;simp only[bM,bH,or_false]at d;rcases d with rfl|rfl|rfl;{exact p _ _ (by simp) gz0 e};{exact p _ _ (by simp) gz0 e};·exact p _ _ gz0 (by simp) e};·obtain⟨w,e,m,k,l,g⟩:=q i t;exact⟨w,e,m,k,l,g.presS p⟩
def C7h{h:aE}{b b1 b2 b3:J}{o o1 o2 o3:Obj}(hb:h b=none)(hb1:(h.put b o) b1=none)(hb2:((h.put b o).put b1 o1) b2=none)(hb3:(((h.put b o).put b1 o1).put b2 o2) b3=none):∃hq9:aE,(((h.put b o).put b1 o1).put b2 o2).put b3 o3=hq9/\h.le hq9/\hq9 b=some o/\hq9 b1=some o1/\hq9 b2=some o2/\hq9 b3=some o3/\b1≠b2/\b1≠b3/\b2≠b3/\h b1=none/\h b2=none/\h b3=none:=by have e:b1≠b:=fun q=>by{rw[q,C3]at hb1;cases hb1};have f:b2≠b1:=fun q=>by{rw[q,C3]at hb2;cases hb2};have d:b2≠b:=fun q=>by{rw[q,C1 _ _ (Ne.symm e),C3]at hb2;cases hb2};have g:b3≠b2:=fun q=>by{rw[q,C3]at hb3;cases hb3};have c:b3≠b1:=fun q=>by{rw[q,C1 _ _ (Ne.symm f),C3]at hb3;cases hb3};have a:b3≠b:=fun q=>by{rw[q,C1 _ _ (Ne.symm d),C1 _ _ (Ne.symm e),C3]at hb3;cases hb3};refine⟨_,rfl,B6 (Heap.le_put _ hb) (B6 (Heap.le_put _ hb1) (B6 (Heap.le_put _ hb2) (Heap.le_put _ hb3))),?_,?_,?_,C3 _ _ _,Ne.symm f,Ne.symm c,Ne.symm g,?_,?_,?_⟩;{rw[C1 _ _ (Ne.symm a),C1 _ _ (Ne.symm d),C1 _ _ (Ne.symm e),C3]};{rw[C1 _ _ (Ne.symm c),C1 _ _ (Ne.symm f),C3]};{rw[C1 _ _ (Ne.symm g),C3]};{rwa [C1 _ _ e]at hb1};{rwa [C1 _ _ f,C1 _ _ d]at hb2};·rwa [C1 _ _ g,C1 _ _ c,C1 _ _ a]at hb3
def Fj{h:aE}{b i:J}{cs:Array aT}{e:aW}{v:aT}(hb:h b=some (.cells cs e))(hv:cs[i]? = some v):h.cell? (aH ⟨b,0,none⟩ i)=some v:=by rw[D9];unfold Heap.cell?;grind
def A76{h g:aE}{b:J}{o:Obj}(l:h.le g)(hb:h b=none):h.le (g.put b o):=fun k u e=>by rw[C1 _ _ (fun q=>gz0)];exact l _ _ e
section
variable {h:aE} {K:VP} {A BA IA:Option aF} {c bc ic m mq v d D N:J} {V:J->Y}
def Ro(gl:Gl h)(q:Quo h A BA IA v D m d V)(hN:N<=999)(kb:∀k,k<=N->KB V (frm k) v d mq)(hq1:1<=mq)(hq:mq<=1000000)(sb:SB (rkM V v d) mq) (hno:∀k,k<N->Nq (fmM V (frm k) v d) (rkM V v d)≠rkM V v d) (hyes:Nq (fmM V (frm N) v d) (rkM V v d)=rkM V v d) (hK:∀FA fc KA kc h',h.le h'->aP SSr h' FA v (fun i=>E7 (frm N i))->aP (MVr (rkM V v d)) h' KA (rkM V v d+1) (kpw (fmM V (frm N) v d) (rkM V v d))->K (.tuple #[.slice FA v fc,.agg #[.slice KA (rkM V v d+1) kc],I 0]) h'): aN prog 39 #[C2g A BA IA c bc ic v D (rkM V v d)] h K:=by have v1:=q.fn.v1;have v2:=q.fn.v2;have r:=q.r1;have r6:=q.r6;refine(fnk func39 (rs:=[(3,[.slice none 0 0]),(1000003,[])]) (own:=[6]) (wr:=[1000000000])) ?_;refine Ru fun b hb=>⟨_,rfl,?_⟩;refine Jt (z:=.slice none 0 0) (size:=1) (bytes:=24) (by kernel_rfl) fun p X=>⟨_,rfl,?_⟩;refine Jt (z:=.agg #[.slice none 0 0]) (size:=1) (bytes:=24) (by kernel_rfl) fun w S=>⟨_,rfl,?_⟩;refine Jt (z:=I 0) (size:=1) (bytes:=8) (by kernel_rfl) fun s aa=>⟨_,rfl,?_⟩;obtain⟨g,eH,hl,f0,f1,f2,f3,B,C,y,x1,x2,x3⟩:=C7h hb X S aa;rw[eH];refine⟨(v:Z),by exact Fj f0 rfl,?_⟩;refine(fnk func93) ?_;refine Ru fun R W=>⟨_,rfl,_,rfl,?_⟩;have M:=Heap.le_put (h:=g) (.cells (cP (I (v:Z))) 3) W;have e4:(g.put R (.cells (cP (I (v:Z))) 3)).cell? ⟨R,0,none⟩=some (I (v:Z)):=by{rw[E6];rfl};generalize g.put R (.cells (cP (I (v:Z))) 3)=H4 at M e4 ⊢;have Q:=B6 hl M;refine A6o (g0:=H4) (N:=N) (gl.mono Q) e4 v1 o hN (fun k hx=>H4.le hx) (fun j=>∃FA fc KA kc,j.cell? ⟨p,0,none⟩=some (.slice FA v fc)/\j.cell? (aH ⟨w,0,none⟩ 0)=some (.slice KA (rkM V v d+1) kc)/\j.cell? ⟨s,0,none⟩=some (I 0)/\h.le j/\aP SSr j FA v (fun i=>E7 (frm N i))/\aP (MVr (rkM V v d)) j KA (rkM V v d+1) (kpw (fmM V (frm N) v d) (rkM V v d))) (B8 _) (fun _ _ l=>l) ?_ ?_;{intro k h1 h2 FA fc hk T H row;have lh:=B6 T H;have f:=B6 M lh;have g0:=f _ _ f0;refine⟨_,_,_,rfl,_,_,_,_,_,_,_,_,_,_,_,_,_,Fj g0 rfl,Fj g0 rfl,Fj g0 rfl,Fj g0 rfl,Fj g0 rfl,Fj g0 rfl,Fj g0 rfl,?_⟩;have q2:=q.mono (B6 hl f);have E:=gl.mono (B6 hl f);refine A1w (mf:=100) E q2 row (fun i hi=>(B8a o i).mono o) o (kb k hk) hq1 hq fun KA kc h3 l3 r3=>⟨_,_,_,_,rfl,D8 (fun e=>absurd rfl e) (fun _=>?_)⟩;have g3:=l3 _ _ g0;refine⟨_,_,_,Fj g3 rfl,?_⟩;refine Bn r3 o o o o fun A4 c4 F l5 r4=>⟨_,_,_,_,_,rfl,?_⟩;have a:=B6 l3 l5;refine Wr (E.mono a) (A90 r r6 r o (kb k hk).pw r4) sb hq ⟨_,_,rfl,D8 (fun e=>absurd rfl e) (fun _=>?_)⟩;have g4:=a _ _ g0;refine⟨_,_,_,Fj g4 rfl,?_⟩;refine D4 (fun e=>?_) (fun e=>?_);{obtain rfl:k=N:=by{grind};have k1:=a _ _ (f _ _ f1);have k2:=a _ _ (f _ _ f2);have k3:=a _ _ (f _ _ f3);have L:=B6 (B6 hl f) a;have t:=row.mono F1 a;have G:=r3.mono (Wc _) l5;rw[<- Hp k1];refine Bu (by kernel_rfl) (by kernel_rfl) rfl rfl dc ?_;obtain⟨H5,e5,P5,c5,k25,k35,l5'⟩:∃H5,F.put p (.cells ((cP (.slice none 0 0)).setIfInBounds 0 (.slice FA v fc)) _)=H5/\Pres F H5/\H5 p=some (.cells #[.slice FA v fc] _)/\H5 w=F w/\H5 s=F s/\h.le H5:=⟨_,rfl,Pres.put k1 (.inl rfl),C3 _ _ _,C1 _ _ (Ne.symm B),C1 _ _ (Ne.symm C),A76 L x1⟩;rw[e5];rw[k2]at k25;rw[k3]at k35;rw[<- Hp k25];refine Yy (off:=0) (n:=1) (arr:=[.slice none 0 0]) (vs:=[.slice KA (rkM V v d+1) kc]) ⟨by kernel_rfl,by kernel_rfl⟩ rfl rfl (fun u hu=>by rw[List.mem_singleton.1 hu];rfl) dc ?_;obtain⟨H6,e6,P6,c6,k16,k36,l6'⟩:∃H6,H5.put w (.cells (J0 [.slice none 0 0] 0 [.slice KA (rkM V v d+1) kc]).toArray _)=H6/\Pres H5 H6/\H6 w=some (.cells #[.slice KA (rkM V v d+1) kc] _)/\H6 p=H5 p/\H6 s=H5 s/\h.le H6:=⟨_,rfl,Pres.put k25 (.inl rfl),C3 _ _ _,C1 _ _ B,C1 _ _ (Ne.symm y),A76 l5' x2⟩;rw[e6];rw[k35]at k36;rw[c5]at k16;rw[<- Hp k36];refine Bu (by kernel_rfl) (by kernel_rfl) rfl rfl dc ?_;refine⟨FA,fc,KA,kc,?_,?_,?_,A76 l6' x3,((t.presS P5).presS P6).presS (Pres.put k36 (.inr rfl)),((G.presM P5 r).presM P6 r).presM (Pres.put k36 (.inr rfl)) r⟩;{unfold Heap.cell?;rw[C1 _ _ C,k16];rfl};{rw[D9];unfold Heap.cell?;rw[C1 _ _ y,c6];rfl};·unfold Heap.cell?;rw[C3];rfl};·have O:k<N:=by{grind};exact⟨O,B6 lh a⟩};grind
end
def trN(f:J->Y):J->J
 |0=>0
 |n+1=>if f n=0 then trN f n else n+1
def C2v(f:J->Y):∀n,trN f n<=n:=by
 intro n
 induction n with
 |zero=>exact aC _
 |succ n ih=>unfold trN;grind
def uni(j:J):J->Y:=fun i=>if i=j then 1 else 0
section
variable {h:aE} {K:VP} {A BA IA KA:Option aF} {c bc ic kc m mq n v d D:J} {V f:J->Y}
def A4v{j:J}(gl:Gl h)(q:Quo h A BA IA v D m d V)(hj:j<v)(kb:∀i k,i<rkM V v d->k<rkM V v d->Sz mq (ivM V v d i k)/\Sz mq (B17 V (uni j) v d i k))(hq1:1<=mq)(hq:mq<=1000000) (hK:∀A' c' h',h.le h'->aP SSr h' A' (rkM V v d*rkM V v d) (T1 (fmM V (uni j) v d) (rkM V v d))->K (.tuple #[Lj (rkM V v d) (rkM V v d) A' (rkM V v d*rkM V v d) c',I 0]) h'): aN prog 99 #[C2g A BA IA c bc ic v D (rkM V v d),I (j:Z)] h K:=by have n:=q.fn.v1;have s:=q.fn.v2;refine(fnk func99 (own:=[2,4])) ?_;refine T6 G2 rfl fun b0 e=>⟨_,_,_,rfl,?_⟩;refine A3m e n o fun b r u own=>⟨_,_,_,rfl,_,rfl,o,o,?_⟩;refine own.set F1 N9 (k:=j) hj (y:=E7 1) (by rw[t1];rfl) (z:=E7 1) rfl fun l a=>?_;have f:=a.le;have row:aP SSr l (some ⟨b,0,none⟩) v (fun i=>E7 (uni j i)):=(a.vis F1).congr fun i _=>by{show(if i=j then E7 1 else E7 0)=E7 (if i=j then 1 else 0);grind};refine Fx (mf:=100) (gl.mono f) (q.mono f) row (fun i _=>?_) o kb hq1 hq fun A1 c1 t p g=>⟨_,_,_,_,_,_,rfl,hK _ _ _ (B6 f p) g⟩;unfold uni;split;{exact⟨ZB.one o,ZB.one o⟩};·exact Sz.zero o
def Uh(gl:Gl h)(x:aP SSr h A n (fun i=>E7 (f i)))(hn:n<=65)(hs:∀i,i<n->Sz m (f i))(hm:m<=40000000)
 (hK:∀A' c' h',h.le h'->aP SSr h' A' (trN f n) (fun i=>E7 (f i))->K (.tuple #[.slice A' (trN f n) c',I 0]) h'):aN prog 100 #[.slice A n c] h K:=by
 refine(fnk func100) ?_;refine Z2 gl x o (fun i D=>(Tx.of (hs i D) hm).len) (fun _ b j own=>⟨_,_,_,_,rfl,Br.nt ?_⟩) (fun no=>absurd (fun i _=>⟨_,rfl⟩) no);have E:=own.le;have G:aP RQr j (some ⟨b,0,none⟩) n f:=(own.vis H2).congr fun i _=>F3 _;refine(fnk func60 [(1,[0],[],[.slice none 0 0])]) ?_
 have fin:∀{k d:J} {VA:Option aF} {K':VP},k<=n->aP RQr j VA k f->(∀q g,j.le g->aP SSr g (some ⟨q,0,none⟩) k (fun i=>E7 (f i))->K' (.slice (some ⟨q,0,none⟩) k k) g)->aN prog 126 #[.slice VA k d] j K':=fun {k d VA K'} B r kk=>
  U8 (gl.mono E) r o (fun i D=>hs i o) hm fun q g C=>kk q g C.le (C.vis F1);refine⟨fun L y=>∃(k:J) (VA:Option aF) (d:J),k<=n/\k<=d/\L=[.slice VA k d]/\y=j/\aP RQr j VA k f/\trN f k=trN f n,fun L _=>match L with|[.slice _ k _]=>k|_=>0,⟨n,_,_,aC _,aC _,rfl,rfl,G,rfl⟩,?_⟩
 rintro VA k d y ⟨V,VA0,H,B,s,R,rfl,r,Q⟩;obtain⟨rfl,rfl,rfl⟩:=R
 have done:trN f k=k->aN prog 126 #[.slice VA k d] y (fun M t=>∃(t23A:Option aF) (t23n:J) (t23c:J),M= .slice t23A t23n t23c/\aN prog 116 #[.slice t23A t23n t23c] t (fun z p=>∃(t25:Bool),z= .bool t25/\Br (!t25) (∃(a:Option aF) (b c:J) (e:Z),Value.tuple #[.slice none 0 0,I (2:Z)]= .tuple #[.slice a b c,I e]/\K (.tuple #[.slice a b c,I e]) p) (∃(a:Option aF) (b c:J) (e:Z),Value.tuple #[.slice t23A t23n t23c,I (0:Z)]= .tuple #[.slice a b c,I e]/\K (.tuple #[.slice a b c,I e]) p))):=fun e=>
  fin B r fun q g T z=>⟨_,_,_,rfl,by refine(fnk func116) ?_;exact⟨_,rfl,Br.not (B9 (fun _=>⟨_,_,_,_,rfl,by
   have O:trN f n=k:=o;rw[O]at hK;exact hK _ _ _ (B6 E T) z⟩) (fun no=>o))⟩⟩;refine B9 (fun N=>?_) (fun F=>?_)
 ·obtain⟨k,rfl⟩:∃k',k=k'+1:=⟨k-1,o⟩;rw[show C4 (((k+1:J):Z)-1)=(k:Z) by rw[C0]<;>omega,aI];obtain⟨a,w,e,S,c0,c1,c2,c3⟩:=r.qat (show k<k+1 from o);refine⟨a,e,o,o,_,_,_,_,_,_,_,_,c0,c1,c2,c3,?_⟩;refine Bv S ⟨_,rfl,B9 (fun u=>?_) (fun u=>?_)⟩
  ·refine⟨⟨o,o⟩,⟨k,_,_,o,o,rfl,rfl,?_,?_⟩,?_⟩
   ·have:=(r.cut (c:=d) (l:=0) (k:=k) o s);exact this.congr fun i _=>by rw[cF]
   ·rw[<- Q,trN,iP u]
   grind
  ·exact done (by rw[trN,iN u])
 ·obtain rfl:k=0:=o;exact done rfl
def B0w(V:J->Y)(v d:J)(M:J->J->Y)(j:J):J->Y:=A9o (fl (A2f (kpw M (rkM V v d))) (rkM V v d)) (fun i=>fmM V (uni j) v d i 0) (rkM V v d) (rkM V v d)
def Rp{j:J}{M:J->J->Y}(gl:Gl h)(q:Quo h A BA IA v D m d V)(hj:j<v)(kb:∀i k,i<rkM V v d->k<rkM V v d->Sz mq (ivM V v d i k)/\Sz mq (B17 V (uni j) v d i k))(hq1:1<=mq)(hq:mq<=1000000) (x:aP (MVr (rkM V v d)) h KA (rkM V v d+1) (kpw M (rkM V v d))) (hs:∀k,k<=rkM V v d->∀i,i<rkM V v d->Sz mq (kpw M (rkM V v d) k i)) (sf:∀i,i<rkM V v d->Sz mq (fmM V (uni j) v d i 0)) (sb:SB (rkM V v d) mq) (ok:Kc (fl (A2f (kpw M (rkM V v d))) (rkM V v d)) (fun i=>fmM V (uni j) v d i 0) (rkM V v d) (rkM V v d)) (hx:∀i,i<rkM V v d->Sz 10000000 (B0w V v d M j i)) (hK:∀A' c' h',h.le h'->aP SSr h' A' (trN (B0w V v d M j) (rkM V v d)) (fun i=>E7 (B0w V v d M j i))->K (.tuple #[.slice A' (trN (B0w V v d M j) (rkM V v d)) c',I 0]) h'): aN prog 41 #[C2g A BA IA c bc ic v D (rkM V v d),.agg #[.slice KA (rkM V v d+1) kc],I (j:Z)] h K:=by have s:=q.r1;have r6:=q.r6;have T:rkM V v d*rkM V v d<=6*6:=aK r6 r6;refine(fnk func41 [(6,[28],[],[I 0])] (own:=[3,4,8])) ?_;refine A4v gl q hj kb hq1 hq fun A1 c1 O X p=>⟨_,_,_,_,_,_,rfl,D8 (fun e=>absurd rfl e) (fun _=>?_)⟩;refine G7 G2 (zx:=([]:dC UInt8)) rfl o o o o fun b H=>⟨_,_,_,rfl,?_⟩;refine⟨fun L B=>∃k:J,k<=rkM V v d/\L=[I k]/\OwnK SSr O B b (rkM V v d) k (fun i=>E7 (fmM V (uni j) v d i 0)),fun L _=>rkM V v d-(iAt L 0).toNat,⟨0,o,rfl,OwnK.zero H⟩,?_⟩;rintro z B ⟨k,hk,eL,w⟩;obtain rfl:z=(k:Z):=gz0;refine B9 (fun F=>?_) (fun C=>?_);{have f:k<rkM V v d:=o;have r:=V5 f (show 0<rkM V v d from o);obtain⟨a,e,c0⟩:=(p.mono F1 w.le).sat r;have Q:C4 ((k:Z)*(rkM V v d:Z))=((k*rkM V v d+0:J):Z):=by{exact O5 (n:=k*rkM V v d) o};have E:T1 (fmM V (uni j) v d) (rkM V v d) (k*rkM V v d+0)=E7 (fmM V (uni j) v d k 0):=by{obtain⟨a1,a2⟩:=dm1 (i:=k) (show 0<rkM V v d from o);unfold T1;grind};rw[Q];refine⟨a,e,o,o,_,by exact c0,_,rfl,o,o,?_⟩;refine w.fill F1 N9 (y:=E7 (fmM V (uni j) v d k 0)) f (by rw[E];rfl) rfl fun W G=>?_;rw[wiS k o];exact⟨⟨k+1,o,rfl,G⟩,by simp only[U4];omega⟩};·obtain rfl:k=rkM V v d:=o;have t:=B6 X w.le;refine Bn (x.mono (Wc _) t) o o o o fun A3 c3 W u R=>⟨_,_,_,_,_,rfl,?_⟩;have g:=B6 t u;refine Jj (gl.mono g) (A90 s r6 s o hs R) ((w.own.vis F1).mono F1 u) sf ok hq1 ⟨(sb _ (aC _)).1,(sb _ (aC _)).1,(sb _ (aC _)).2,(sb _ (aC _)).2⟩ fun A5 c5 B5 n5 d5 h5 N S=>⟨_,_,_,_,_,_,_,rfl,D8 (fun e=>absurd rfl e) (fun _=>?_)⟩;have l:=B6 g N;exact Uh (m:=10000000) (gl.mono l) S o hx o fun A6 c6 h6 l6 r6=>⟨_,_,_,_,rfl,hK _ _ _ (B6 l l6) r6⟩
end
