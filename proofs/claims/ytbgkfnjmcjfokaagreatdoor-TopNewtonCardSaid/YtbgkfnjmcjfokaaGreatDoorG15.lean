/- A part. -/
import Derived.Test.YtbgkfnjmcjfokaaGreatDoorG13
set_option linter.all false
namespace Go.Proofs.YtbgkfnjmcjfokaaGreatDoor
open Go
def Heap.without(h:Heap)(b:Nat):Heap:=fun k=>if k=b then none else h k
def N3(h:Heap)(b:Nat):h.without b b=none:=by simp [Heap.without]
def K7{h:Heap}{b:Nat}{o:Obj}(e:h b=some o):(h.without b).put b o=h:=by
 funext k;unfold Heap.put Heap.without
 grind
def Jp{g h':Heap}{b:Nat}{o:Obj}(hb:g b=none)(hl:(g.put b o).le h'):∃ g',g.le g'/\g' b=none/\h'=g'.put b o:=by
 have e:h' b=some o:=hl b o (B8 g b o)
 refine ⟨h'.without b,fun k d c=>?_,N3 h' b,(K7 e).symm⟩
 have a:k≠b:=gz0
 unfold Heap.without
 rw [iN a]
 exact hl k d (by rw [B6 _ _ a];exact c)
def Priv.after{h g h':Heap}{e:TypeId}{s:Nat}{A:Option Addr}{n c:Nat}{xs:List Value}(p:Priv h g e s A n c xs)(hl:h.le h'):∃ g',g.le g'/\Priv h' g' e s A n c xs:=by
 obtain ⟨j,i,m⟩:=p
 rcases m with ⟨r,rfl⟩|⟨b,d,w,q,rfl,k,l⟩
 ·exact ⟨h',hl,j,i,.inl ⟨r,rfl⟩⟩
 ·obtain ⟨g',u,a,rfl⟩:=Jp q hl
  exact ⟨g',u,j,i,.inr ⟨b,d,w,a,rfl,k,l⟩⟩
def FCall.shrink{P:Program}{f:FuncId}{args:Array Value}{h:Heap}{K K':VP}(x:FCall P f args h K')(hk:∀ r h',K' r h'->∃ h1,h.le h1/\h1.le h'/\K r h1):FCall P f args h K:=
 fun W l=>(x W l).mono fun _ _ ⟨r,h',d,i,a⟩=>by
  obtain ⟨h1,_,c,j⟩:=hk r h' i
  refine ⟨r,h1,d,j,a.le c fun b k g=>?_⟩
  cases e:h1 b with
  | none=>grind
  | some o=>exact a.new b o k (c b o e)
def FCall.pure{P:Program}{f:FuncId}{args:Array Value}{h:Heap}{K:VP}(x:FCall P f args h (fun r h'=>h.le h'/\K r h)):FCall P f args h K:=
 x.shrink fun _ _ a=>⟨h,B0 h,a.1,a.2⟩
def A3m{x y:Int}(hx:0<=x/\x<18446744073709551616)(hy:0<=y/\y<18446744073709551616){x0 x1 y0 y1:Int}(ex:x=x1*4294967296+x0)(ey:y=y1*4294967296+y0)(hx0:0<=x0/\x0<4294967296)(hy0:0<=y0/\y0<4294967296):
 (0<=x0*y0/\x0*y0<=18446744065119617025)/\(0<=x1*y0/\x1*y0<=18446744065119617025)/\(0<=x0*y1/\x0*y1<=18446744065119617025)/\(0<=x1*y1/\x1*y1<=18446744065119617025)/\x*y=x1*y1*18446744073709551616+(x1*y0+x0*y1)*4294967296+x0*y0:=by
 have m:∀ {a b:Int},(0<=a/\a<4294967296)->(0<=b/\b<4294967296)->0<=a*b/\a*b<=18446744065119617025:=by
  intro a b d c
  refine ⟨Int.mul_nonneg d.1 c.1,?_⟩
  have:=Int.mul_le_mul (show a<=4294967295 from o) (show b<=4294967295 from o) c.1 dc
  omega
 refine ⟨m hx0 hy0,m o hy0,m hx0 o,m o o,?_⟩
 grind
