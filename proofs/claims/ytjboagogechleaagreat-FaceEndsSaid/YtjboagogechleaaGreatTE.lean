import Derived.Test.YtjboagogechleaaGreatTD
namespace Go.Ab.M
open Go.Proofs
set_option linter.unusedVariables false
set_option linter.defProp false
set_option maxRecDepth 100000
structure DI where
 Rat:Rat
 deriving DecidableEq,Inhabited
abbrev DI.D (x:DI):List D:=Rat.D x.Rat
structure Ai where
 halves:DI
 deriving DecidableEq,Inhabited
abbrev Ai.D (x:Ai):List D:=DI.D x.halves
def uF (a:List Int) (b:List Int):Option (List Int×List Int×Bool):=(nT b).bind fun x0=>bif x0==0 then some ([],[],false) else (nZ a b).bind fun x1=>(qJ a x1).bind fun x2=>(qJ b x1).bind fun x3=>some (x2.1,x3.1,true)
theorem MS (a:List Int) (b:List Int):∀r,uF a b=some r->au Tryz.prog 164 0 [SL (cI .u32) a,SL (cI .u32) b] [] (.tup [SL (cI .u32) r.1,SL (cI .u32) r.2.1,B r.2.2]) []:=
 ay 10 (.call [] [] (Fa b) .no fun x0=>.br 100000010 (.ps 1000003 [.n 4,.n 5] (.ret ([],[],false))) (.call [] [] (Hy a b) .no fun x1=>.call [] [] (Dc a x1) .no fun x2=>.call [] [] (Dc b x1) .no fun x3=>.ret (x2.1,x3.1,true))) Tryz.func164
def Kt (a:Int) (b:Int) (c:Int):Option (Int×Int):=(lC [a,b,c]).bind fun x0=>(uh x0).bind fun x1=>some (x1.2,x1.1)
theorem YV (a:Int) (b:Int) (c:Int):∀r,Kt a b c=some r->au Tryz.prog 218 0 [NI .u32 a,NI .u32 b,NI .u32 c] [] (.tup [NI .u32 r.1,NI .u32 r.2]) []:=
 ay 10 (.call [] [] (wX [a,b,c]) (.yes fun _=>⟨rfl,trivial⟩) fun x0=>.call [] [] (zV x0) .no fun x1=>.ret (x1.2,x1.1)) Tryz.func218
def XC (a:List Int) (b:List Int) (i:Nat) (out:List Int):St:=⟨43,0,[(0,SL (cI .u32) a),(1,SL (cI .u32) b),(5,I (mxI ((a.length:Nat):Int) ((b.length:Nat):Int))),(6,.msl 10 0 none (some (((mxI ((a.length:Nat):Int) ((b.length:Nat):Int))+1).toNat))),(16,I (mxI ((a.length:Nat):Int) ((b.length:Nat):Int))),(17,I ((i:Nat):Int))],[(10,ROW 1 (cI .u32) out 0)]⟩
def WS (a:List Int) (b:List Int) (out:List Int):St:=⟨43,0,[(6,.msl 10 0 none (some (((mxI ((a.length:Nat):Int) ((b.length:Nat):Int))+1).toNat)))],[(10,ROW 1 (cI .u32) out 0)]⟩
def qW (a:List Int) (b:List Int) (i:Nat) (out:List Int):Option ((Nat×List Int)⊕(List Int)):=bif decide (((i:Nat):Int)<(mxI ((a.length:Nat):Int) ((b.length:Nat):Int))) then (IE a ((i:Nat):Int)).bind fun x0=>(IE b ((i:Nat):Int)).bind fun x1=>bif decide (0<=mxI ((a.length:Nat):Int) ((b.length:Nat):Int)) then bif decide ((mxI ((a.length:Nat):Int) ((b.length:Nat):Int)).toNat<out.length) then bif decide ((mxI ((a.length:Nat):Int) ((b.length:Nat):Int)).toNat<out.length) then (Kt x0 x1 (nth out ((mxI ((a.length:Nat):Int) ((b.length:Nat):Int)).toNat))).bind fun x2=>bif decide (i<out.length) then bif decide (i<out.length) then bif decide (0<=mxI ((a.length:Nat):Int) ((b.length:Nat):Int)) then bif decide ((mxI ((a.length:Nat):Int) ((b.length:Nat):Int)).toNat<(out.set i x2.1).length) then bif decide ((mxI ((a.length:Nat):Int) ((b.length:Nat):Int)).toNat<(out.set i x2.1).length) then bif inK .i64 (((i:Nat):Int)+1) then some (.inl (i+1,(out.set i x2.1).set ((mxI ((a.length:Nat):Int) ((b.length:Nat):Int)).toNat) x2.2)) else none else none else none else none else none else none else none else none else none else some (.inr out)
theorem Ym (a:List Int) (b:List Int):∀σ:Nat×List Int,aQ Tryz.prog (nav [1,1,1,0,1,0,0] (aj Tryz.f178)) (fun (σ:Nat×List Int)=>XC a b σ.1 σ.2) (fun (_:List Int)=>(.exit 0)) (fun (y:List Int)=>WS a b y) σ (qW a b σ.1 σ.2)
 | (i,out)=>aJ 1010 (.br 100000018 (.call [] [] (LZ a ((i:Nat):Int)) .no fun x0=>.call [] [] (LZ b ((i:Nat):Int)) .no fun x1=>.op 60024 (.el (cI .u32) out .dn) (.op 60026 (.ld (cI .u32) out) (.call [] [] (YV x0 x1 (nth out ((mxI ((a.length:Nat):Int) ((b.length:Nat):Int)).toNat))) .no fun x2=>.op 60036 (.el (cI .u32) out (.up i)) (.op 60038 (.st (cI .u32) out x2.1) (.op 60040 (.el (cI .u32) (out.set i x2.1) .dn) (.op 60042 (.st (cI .u32) (out.set i x2.1) x2.2) (.ps 1000003 [.k [0,1,5,6,16,17] [10]] (.ret (.inl (i+1,(out.set i x2.1).set ((mxI ((a.length:Nat):Int) ((b.length:Nat):Int)).toNat) x2.2)))))))))) (.ps 1000003 [.k [6] [10]] (.ret (.inr out))))
def LQ (a:List Int) (b:List Int) (i:Nat) (out:List Int):Option (List Int):=aK (fun (σ:Nat×List Int)=>qW a b σ.1 σ.2) FU (i,out)
def Xt (a:List Int) (b:List Int) (i:Nat) (out:List Int):=
 bn (Ym a b) (fun _ h=>by cases h) FU (i,out)
def KZ (a:List Int) (b:List Int):Option (List Int):=bif inK .i64 ((mxI ((a.length:Nat):Int) ((b.length:Nat):Int))+1) then bif decide (0<=(mxI ((a.length:Nat):Int) ((b.length:Nat):Int))+1) then bif decide (((mxI ((a.length:Nat):Int) ((b.length:Nat):Int))+1).toNat<=2147483648) then (LQ a b 0 (List.replicate (((mxI ((a.length:Nat):Int) ((b.length:Nat):Int))+1).toNat) 0)).bind fun x0=>(fM x0).bind fun x1=>some x1 else none else none else none
theorem Uy (a:List Int) (b:List Int):∀r,KZ a b=some r->au Tryz.prog 178 0 [SL (cI .u32) a,SL (cI .u32) b] [] (SL (cI .u32) r) []:=
 ay 10 (.op 10002 (.ln (cI .u32) a) (.op 10006 (.ln (cI .u32) b) (.op 20004 (.mk (cI .u32) 0 .dn) (.ps 1000001 [.k [0,1,5,6,16,17] [10]] (.lp1 0 (Xt a b 0 (List.replicate (((mxI ((a.length:Nat):Int) ((b.length:Nat):Int))+1).toNat) 0)) fun x0=>.call [] [] (fJ x0) .no fun x1=>.ret x1))))) Tryz.func178
def iL (neg:Bool) (mag:List Int):Option Whole:=(fM mag).bind fun x0=>bif neg then some (Whole.mk (decide (((x0.length:Nat):Int)>0)) x0) else some (Whole.mk false x0)
theorem jE (neg:Bool) (mag:List Int):∀r,iL neg mag=some r->au Tryz.prog 169 0 [B neg,SL (cI .u32) mag] [] (AG Whole.D r) []:=
 ay 10 (.call [] [] (fJ mag) .no fun x0=>.br 20004 (.op 20006 (.ln (cI .u32) x0) (.ret (Whole.mk (decide (((x0.length:Nat):Int)>0)) x0))) (.ret (Whole.mk false x0))) Tryz.func169
def FH (n:Int):Option Whole:=bif decide (n<0) then bif inK .i64 (n+1) then bif inK .i64 (0-(n+1)) then (pY (IntKind.wrap .u64 (0-(n+1)))).bind fun x0=>(pY 1).bind fun x1=>(KZ x0 x1).bind fun x2=>(iL true x2).bind fun x3=>some x3 else none else none else (pY (IntKind.wrap .u64 n)).bind fun x0=>(iL false x0).bind fun x1=>some x1
theorem ZC (n:Int):∀r,FH n=some r->au Tryz.prog 135 0 [I n] [] (AG Whole.D r) []:=
 ay 10 (.br 100000004 (.op 20006 .wr (.call [] [] (kX (IntKind.wrap .u64 (0-(n+1)))) .no fun x0=>.call [] [] (kX 1) .no fun x1=>.call [] [] (Uy x0 x1) .no fun x2=>.call [] [] (jE true x2) .no fun x3=>.ret x3)) (.op 30002 .wr (.call [] [] (kX (IntKind.wrap .u64 n)) .no fun x0=>.call [] [] (jE false x0) .no fun x1=>.ret x1))) Tryz.func135
def Fj (a:Whole) (b:Whole):Option Whole:=(KZ a.Mag b.Mag).bind fun x0=>(iL a.Neg x0).bind fun x1=>some x1
theorem QK (a:Whole) (b:Whole):∀r,Fj a b=some r->au Tryz.prog 168 0 [AG Whole.D a,AG Whole.D b] [] (AG Whole.D r) []:=
 ay 10 (.call [] [] (Uy a.Mag b.Mag) .no fun x0=>.call [] [] (jE a.Neg x0) .no fun x1=>.ret x1) Tryz.func168
def wS (a:Whole) (b:Whole):Option Whole:=(FT a.Mag b.Mag).bind fun x0=>bif x0.2 then (iL a.Neg x0.1).bind fun x1=>some x1 else (FT b.Mag a.Mag).bind fun x1=>(iL b.Neg x1.1).bind fun x2=>some x2
theorem Qg (a:Whole) (b:Whole):∀r,wS a b=some r->au Tryz.prog 167 0 [AG Whole.D a,AG Whole.D b] [] (AG Whole.D r) []:=
 ay 10 (.call [] [] (IU a.Mag b.Mag) .no fun x0=>.br 100000017 (.call [] [] (jE a.Neg x0.1) .no fun x1=>.ret x1) (.call [] [] (IU b.Mag a.Mag) .no fun x1=>.call [] [] (jE b.Neg x1.1) .no fun x2=>.ret x2)) Tryz.func167
def xK (a:Whole) (b:Whole):Option Whole:=bif a.Neg==b.Neg then (Fj a b).bind fun x0=>some x0 else (wS a b).bind fun x0=>some x0
theorem Yv (a:Whole) (b:Whole):∀r,xK a b=some r->au Tryz.prog 120 0 [AG Whole.D a,AG Whole.D b] [] (AG Whole.D r) []:=
 ay 10 (.br 100000011 (.call [] [] (QK a b) .no fun x0=>.ret x0) (.call [] [] (Qg a b) .no fun x0=>.ret x0)) Tryz.func120
def AU (a:Whole) (b:Whole):Option Whole:=(mX a.Mag b.Mag).bind fun x0=>(iL (!(a.Neg==b.Neg)) x0).bind fun x1=>some x1
theorem KR (a:Whole) (b:Whole):∀r,AU a b=some r->au Tryz.prog 121 0 [AG Whole.D a,AG Whole.D b] [] (AG Whole.D r) []:=
 ay 10 (.call [] [] (oK a.Mag b.Mag) .no fun x0=>.call [] [] (jE (!(a.Neg==b.Neg)) x0) .no fun x1=>.ret x1) Tryz.func121
def lV (neg:Bool) (n:List Int) (d:List Int):Option Rat:=(uF n d).bind fun x0=>bif !x0.2.2 then (pY 1).bind fun x1=>some (Rat.mk false [] x1) else bif ((x0.1.length:Nat):Int)==0 then (pY 1).bind fun x1=>some (Rat.mk false [] x1) else some (Rat.mk neg x0.1 x0.2.1)
theorem pX (neg:Bool) (n:List Int) (d:List Int):∀r,lV neg n d=some r->au Tryz.prog 115 0 [B neg,SL (cI .u32) n,SL (cI .u32) d] [] (AG Rat.D r) []:=
 ay 10 (.call [] [] (MS n d) .no fun x0=>.br 20006 (.call [] [] (kX 1) .no fun x1=>.ps 1000003 [.b 10] (.ret (Rat.mk false [] x1))) (.op 20008 (.ln (cI .u32) x0.1) (.br 100000023 (.call [] [] (kX 1) .no fun x1=>.ps 1000003 [.b 10] (.ret (Rat.mk false [] x1))) (.ret (Rat.mk neg x0.1 x0.2.1))))) Tryz.func115
def AV (a:Rat):Option Rat:=(lV a.Neg a.Num a.Den).bind fun x0=>some x0
theorem KF (a:Rat):∀r,AV a=some r->au Tryz.prog 81 0 [AG Rat.D a] [] (AG Rat.D r) []:=
 ay 10 (.call [] [] (pX a.Neg a.Num a.Den) .no fun x0=>.ret x0) Tryz.func81
def vM (n:Int):Option Rat:=(FH n).bind fun x0=>(pY 1).bind fun x1=>(lV x0.Neg x0.Mag x1).bind fun x2=>some x2
theorem uN (n:Int):∀r,vM n=some r->au Tryz.prog 80 0 [I n] [] (AG Rat.D r) []:=
 ay 10 (.call [] [] (ZC n) .no fun x0=>.call [] [] (kX 1) .no fun x1=>.call [] [] (pX x0.Neg x0.Mag x1) .no fun x2=>.ret x2) Tryz.func80
def Ey (a:Rat):Option Ai:=(AV a).bind fun x0=>some (Ai.mk (DI.mk x0))
theorem Om (a:Rat):∀r,Ey a=some r->au Tryz.prog 119 0 [AG Rat.D a] [] (AG Ai.D r) []:=
 ay 10 (.call [] [] (KF a) .no fun x0=>.ret (Ai.mk (DI.mk x0))) Tryz.func119
def lX (h:DI):Option Whole:=some (Whole.mk h.Rat.Neg h.Rat.Num)
theorem sQ (h:DI):∀r,lX h=some r->au Tryz.prog 122 0 [AG DI.D h] [] (AG Whole.D r) []:=
 ay 10 (.ret (Whole.mk h.Rat.Neg h.Rat.Num)) Tryz.func122
def l7 (h:DI):Option Whole:=some (Whole.mk false h.Rat.Den)
theorem sS (h:DI):∀r,l7 h=some r->au Tryz.prog 123 0 [AG DI.D h] [] (AG Whole.D r) []:=
 ay 10 (.ret (Whole.mk false h.Rat.Den)) Tryz.func123
def tX (a:Rat) (b:Rat):Option Rat:=(Ey a).bind fun x0=>(Ey b).bind fun x1=>(lX x0.halves).bind fun x2=>(l7 x1.halves).bind fun x3=>(AU x2 x3).bind fun x4=>(lX x1.halves).bind fun x5=>(l7 x0.halves).bind fun x6=>(AU x5 x6).bind fun x7=>(xK x4 x7).bind fun x8=>(mX x0.halves.Rat.Den x1.halves.Rat.Den).bind fun x9=>(lV x8.Neg x8.Mag x9).bind fun x10=>some x10
theorem BX (a:Rat) (b:Rat):∀r,tX a b=some r->au Tryz.prog 59 0 [AG Rat.D a,AG Rat.D b] [] (AG Rat.D r) []:=
 ay 10 (.call [] [] (Om a) .no fun x0=>.call [] [] (Om b) .no fun x1=>.call [] [] (sQ x0.halves) .no fun x2=>.call [] [] (sS x1.halves) .no fun x3=>.call [] [] (KR x2 x3) .no fun x4=>.call [] [] (sQ x1.halves) .no fun x5=>.call [] [] (sS x0.halves) .no fun x6=>.call [] [] (KR x5 x6) .no fun x7=>.call [] [] (Yv x4 x7) .no fun x8=>.call [] [] (oK x0.halves.Rat.Den x1.halves.Rat.Den) .no fun x9=>.call [] [] (pX x8.Neg x8.Mag x9) .no fun x10=>.ret x10) Tryz.func59
def xH (a:Rat) (b:Rat):Option Rat:=(mX a.Num b.Num).bind fun x0=>(mX a.Den b.Den).bind fun x1=>(lV (!(a.Neg==b.Neg)) x0 x1).bind fun x2=>some x2
theorem J6 (a:Rat) (b:Rat):∀r,xH a b=some r->au Tryz.prog 56 0 [AG Rat.D a,AG Rat.D b] [] (AG Rat.D r) []:=
 ay 10 (.call [] [] (oK a.Num b.Num) .no fun x0=>.call [] [] (oK a.Den b.Den) .no fun x1=>.call [] [] (pX (!(a.Neg==b.Neg)) x0 x1) .no fun x2=>.ret x2) Tryz.func56
end Go.Ab.M
