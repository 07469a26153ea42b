/- A part. -/
import Derived.Test.YteppbhimdjmabaaGreatDoorG13
set_option linter.all false
namespace Go.Proofs.YteppbhimdjmabaaGreatDoor
open Go
def Heap.without(h:Heap)(b:Nat):Heap:=fun k=>if k=b then none else h k
def Bj(h:Heap)(b:Nat):h.without b b=none:=by simp[Heap.without]
def P8{h:Heap}{b:Nat}{o:Obj}(e:h b=some o):(h.without b).put b o=h:=by funext k;unfold Heap.put Heap.without;grind
def Mi{g h':Heap}{b:Nat}{o:Obj}(hb:g b=none)(hl:(g.put b o).le h'):∃g',g.le g'/\g' b=none/\h'=g'.put b o:=by have e:h' b=some o:=hl b o (C3 g b o);refine⟨h'.without b,fun k d c=>?_,Bj h' b,(P8 e).symm⟩;have a:k≠b:=gz0;unfold Heap.without;rw[iN a];exact hl k d (by rw[C1 _ _ a];exact c)
def Priv.after{h g h':Heap}{e:TypeId}{s:Nat}{A:Option Addr}{n c:Nat}{xs:List Value}(p:Priv h g e s A n c xs)(hl:h.le h'):∃g',g.le g'/\Priv h' g' e s A n c xs:=by obtain⟨i,f,l⟩:=p;rcases l with⟨q,rfl⟩|⟨b,d,t,m,rfl,j,k⟩;{exact⟨h',hl,i,f,.inl ⟨q,rfl⟩⟩};·obtain⟨g',r,a,rfl⟩:=Mi m hl;exact⟨g',r,i,f,.inr ⟨b,d,t,a,rfl,j,k⟩⟩
def FCall.shrink{P:Program}{f:FuncId}{args:Array Value}{h:Heap}{K K':VP}(x:FCall P f args h K')(hk:∀r h',K' r h'->∃h1,h.le h1/\h1.le h'/\K r h1):FCall P f args h K:=
 fun W hs=>(x W hs).mono fun _ _ ⟨r,h',d,i,a⟩=>by
  obtain⟨h1,_,c,j⟩:=hk r h' i;refine⟨r,h1,d,j,a.le c fun b k g=>?_⟩
  cases e:h1 b with
  |none=>grind
  |some o=>exact a.new b o k (c b o e)
def FCall.pure{P:Program}{f:FuncId}{args:Array Value}{h:Heap}{K:VP}(x:FCall P f args h (fun r h'=>h.le h'/\K r h)):FCall P f args h K:=x.shrink fun _ _ a=>⟨h,B8 h,a.1,a.2⟩
def A71{x y:Int}(hx:0<=x/\x<18446744073709551616)(hy:0<=y/\y<18446744073709551616){x0 x1 y0 y1:Int}(ex:x=x1*4294967296+x0)(ey:y=y1*4294967296+y0)(hx0:0<=x0/\x0<4294967296)(hy0:0<=y0/\y0<4294967296): (0<=x0*y0/\x0*y0<=18446744065119617025)/\(0<=x1*y0/\x1*y0<=18446744065119617025)/\(0<=x0*y1/\x0*y1<=18446744065119617025)/\(0<=x1*y1/\x1*y1<=18446744065119617025)/\x*y=x1*y1*18446744073709551616+(x1*y0+x0*y1)*4294967296+x0*y0:=by have m:∀{a b:Int},(0<=a/\a<4294967296)->(0<=b/\b<4294967296)->0<=a*b/\a*b<=18446744065119617025:=by{intro a b d c;refine⟨Int.mul_nonneg d.1 c.1,?_⟩;have:=Int.mul_le_mul (show a<=4294967295 from o) (show b<=4294967295 from o) c.1 dc;omega};refine⟨m hx0 hy0,m o hy0,m hx0 o,m o o,?_⟩;grind
