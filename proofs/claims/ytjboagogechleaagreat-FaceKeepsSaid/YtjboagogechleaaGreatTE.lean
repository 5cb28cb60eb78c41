import Derived.Test.YtjboagogechleaaGreatTD
namespace Go.Ab.M
open Go.Proofs
set_option linter.unusedVariables false
set_option linter.defProp false
set_option maxRecDepth 100000
structure DW where
 Rat:Rat
 deriving DecidableEq,Inhabited
abbrev DW.D (x:DW):List D:=Rat.D x.Rat
structure BK where
 halves:DW
 deriving DecidableEq,Inhabited
abbrev BK.D (x:BK):List D:=DW.D x.halves
def uG (a:List Int) (b:List Int):Option (List Int×List Int×Bool):=(nT b).bind fun x0=>bif x0==0 then some ([],[],false) else (nH a b).bind fun x1=>(qM a x1).bind fun x2=>(qM b x1).bind fun x3=>some (x2.1,x3.1,true)
theorem Ny (a:List Int) (b:List Int):∀r,uG a b=some r->au Tryz.prog 164 0 [SL (cI .u32) a,SL (cI .u32) b] [] (.tup [SL (cI .u32) r.1,SL (cI .u32) r.2.1,B r.2.2]) []:=
 ay 10 (.call [] [] (Fa b) .no fun x0=>.br 100000010 (.ps 1000003 [.n 4,.n 5] (.ret ([],[],false))) (.call [] [] (HY a b) .no fun x1=>.call [] [] (DC a x1) .no fun x2=>.call [] [] (DC b x1) .no fun x3=>.ret (x2.1,x3.1,true))) Tryz.func164
def LD (a:Int) (b:Int) (c:Int):Option (Int×Int):=(lq [a,b,c]).bind fun x0=>(ug x0).bind fun x1=>some (x1.2,x1.1)
theorem Y7 (a:Int) (b:Int) (c:Int):∀r,LD a b c=some r->au Tryz.prog 218 0 [NI .u32 a,NI .u32 b,NI .u32 c] [] (.tup [NI .u32 r.1,NI .u32 r.2]) []:=
 ay 10 (.call [] [] (xq [a,b,c]) (.yes fun _=>⟨rfl,trivial⟩) fun x0=>.call [] [] (Aw x0) .no fun x1=>.ret (x1.2,x1.1)) Tryz.func218
def XM (a:List Int) (b:List Int) (i:Nat) (out:List Int):St:=⟨43,0,[(0,SL (cI .u32) a),(1,SL (cI .u32) b),(5,I (mxI ((a.length:Nat):Int) ((b.length:Nat):Int))),(6,.msl 10 0 none (some (((mxI ((a.length:Nat):Int) ((b.length:Nat):Int))+1).toNat))),(16,I (mxI ((a.length:Nat):Int) ((b.length:Nat):Int))),(17,I ((i:Nat):Int))],[(10,ROW 1 (cI .u32) out 0)]⟩
def XJ (a:List Int) (b:List Int) (out:List Int):St:=⟨43,0,[(6,.msl 10 0 none (some (((mxI ((a.length:Nat):Int) ((b.length:Nat):Int))+1).toNat)))],[(10,ROW 1 (cI .u32) out 0)]⟩
def rH (a:List Int) (b:List Int) (i:Nat) (out:List Int):Option ((Nat×List Int)⊕(List Int)):=bif decide (((i:Nat):Int)<(mxI ((a.length:Nat):Int) ((b.length:Nat):Int))) then (Il a ((i:Nat):Int)).bind fun x0=>(Il b ((i:Nat):Int)).bind fun x1=>bif decide (0<=mxI ((a.length:Nat):Int) ((b.length:Nat):Int)) then bif decide ((mxI ((a.length:Nat):Int) ((b.length:Nat):Int)).toNat<out.length) then bif decide ((mxI ((a.length:Nat):Int) ((b.length:Nat):Int)).toNat<out.length) then (LD x0 x1 (nth out ((mxI ((a.length:Nat):Int) ((b.length:Nat):Int)).toNat))).bind fun x2=>bif decide (i<out.length) then bif decide (i<out.length) then bif decide (0<=mxI ((a.length:Nat):Int) ((b.length:Nat):Int)) then bif decide ((mxI ((a.length:Nat):Int) ((b.length:Nat):Int)).toNat<(out.set i x2.1).length) then bif decide ((mxI ((a.length:Nat):Int) ((b.length:Nat):Int)).toNat<(out.set i x2.1).length) then bif inK .i64 (((i:Nat):Int)+1) then some (.inl (i+1,(out.set i x2.1).set ((mxI ((a.length:Nat):Int) ((b.length:Nat):Int)).toNat) x2.2)) else none else none else none else none else none else none else none else none else none else some (.inr out)
theorem WV (a:List Int) (b:List Int):∀σ:Nat×List Int,aO Tryz.prog (nav [1,1,1,0,1,0,0] (aj Tryz.f178)) (fun (σ:Nat×List Int)=>XM a b σ.1 σ.2) (fun (_:List Int)=>(.exit 0)) (fun (y:List Int)=>XJ a b y) σ (rH a b σ.1 σ.2)
 | (i,out)=>aI 1010 (.br 100000018 (.call [] [] (NC a ((i:Nat):Int)) .no fun x0=>.call [] [] (NC b ((i:Nat):Int)) .no fun x1=>.op 60024 (.el (cI .u32) out .dn) (.op 60026 (.ld (cI .u32) out) (.call [] [] (Y7 x0 x1 (nth out ((mxI ((a.length:Nat):Int) ((b.length:Nat):Int)).toNat))) .no fun x2=>.op 60036 (.el (cI .u32) out (.up i)) (.op 60038 (.st (cI .u32) out x2.1) (.op 60040 (.el (cI .u32) (out.set i x2.1) .dn) (.op 60042 (.st (cI .u32) (out.set i x2.1) x2.2) (.ps 1000003 [.k [0,1,5,6,16,17] [10]] (.ret (.inl (i+1,(out.set i x2.1).set ((mxI ((a.length:Nat):Int) ((b.length:Nat):Int)).toNat) x2.2)))))))))) (.ps 1000003 [.k [6] [10]] (.ret (.inr out))))
def LU (a:List Int) (b:List Int) (i:Nat) (out:List Int):Option (List Int):=aK (fun (σ:Nat×List Int)=>rH a b σ.1 σ.2) FU (i,out)
def Yx (a:List Int) (b:List Int) (i:Nat) (out:List Int):=
 aZ (WV a b) (fun _ h=>by cases h) FU (i,out)
def KY (a:List Int) (b:List Int):Option (List Int):=bif inK .i64 ((mxI ((a.length:Nat):Int) ((b.length:Nat):Int))+1) then bif decide (0<=(mxI ((a.length:Nat):Int) ((b.length:Nat):Int))+1) then bif decide (((mxI ((a.length:Nat):Int) ((b.length:Nat):Int))+1).toNat<=2147483648) then (LU a b 0 (List.replicate (((mxI ((a.length:Nat):Int) ((b.length:Nat):Int))+1).toNat) 0)).bind fun x0=>(fK x0).bind fun x1=>some x1 else none else none else none
theorem Vr (a:List Int) (b:List Int):∀r,KY a b=some r->au Tryz.prog 178 0 [SL (cI .u32) a,SL (cI .u32) b] [] (SL (cI .u32) r) []:=
 ay 10 (.op 10002 (.ln (cI .u32) a) (.op 10006 (.ln (cI .u32) b) (.op 20004 (.mk (cI .u32) 0 .dn) (.ps 1000001 [.k [0,1,5,6,16,17] [10]] (.lp1 0 (Yx a b 0 (List.replicate (((mxI ((a.length:Nat):Int) ((b.length:Nat):Int))+1).toNat) 0)) fun x0=>.call [] [] (fH x0) .no fun x1=>.ret x1))))) Tryz.func178
def iE (neg:Bool) (mag:List Int):Option Whole:=(fK mag).bind fun x0=>bif neg then some (Whole.mk (decide (((x0.length:Nat):Int)>0)) x0) else some (Whole.mk false x0)
theorem jE (neg:Bool) (mag:List Int):∀r,iE neg mag=some r->au Tryz.prog 169 0 [B neg,SL (cI .u32) mag] [] (AG Whole.D r) []:=
 ay 10 (.call [] [] (fH mag) .no fun x0=>.br 20004 (.op 20006 (.ln (cI .u32) x0) (.ret (Whole.mk (decide (((x0.length:Nat):Int)>0)) x0))) (.ret (Whole.mk false x0))) Tryz.func169
def EK (n:Int):Option Whole:=bif decide (n<0) then bif inK .i64 (n+1) then bif inK .i64 (0-(n+1)) then (pY (IntKind.wrap .u64 (0-(n+1)))).bind fun x0=>(pY 1).bind fun x1=>(KY x0 x1).bind fun x2=>(iE true x2).bind fun x3=>some x3 else none else none else (pY (IntKind.wrap .u64 n)).bind fun x0=>(iE false x0).bind fun x1=>some x1
theorem Zl (n:Int):∀r,EK n=some r->au Tryz.prog 135 0 [I n] [] (AG Whole.D r) []:=
 ay 10 (.br 100000004 (.op 20006 .wr (.call [] [] (kY (IntKind.wrap .u64 (0-(n+1)))) .no fun x0=>.call [] [] (kY 1) .no fun x1=>.call [] [] (Vr x0 x1) .no fun x2=>.call [] [] (jE true x2) .no fun x3=>.ret x3)) (.op 30002 .wr (.call [] [] (kY (IntKind.wrap .u64 n)) .no fun x0=>.call [] [] (jE false x0) .no fun x1=>.ret x1))) Tryz.func135
def EI (a:Whole) (b:Whole):Option Whole:=(KY a.Mag b.Mag).bind fun x0=>(iE a.Neg x0).bind fun x1=>some x1
theorem Rn (a:Whole) (b:Whole):∀r,EI a b=some r->au Tryz.prog 168 0 [AG Whole.D a,AG Whole.D b] [] (AG Whole.D r) []:=
 ay 10 (.call [] [] (Vr a.Mag b.Mag) .no fun x0=>.call [] [] (jE a.Neg x0) .no fun x1=>.ret x1) Tryz.func168
def xI (a:Whole) (b:Whole):Option Whole:=(Gt a.Mag b.Mag).bind fun x0=>bif x0.2 then (iE a.Neg x0.1).bind fun x1=>some x1 else (Gt b.Mag a.Mag).bind fun x1=>(iE b.Neg x1.1).bind fun x2=>some x2
theorem Pz (a:Whole) (b:Whole):∀r,xI a b=some r->au Tryz.prog 167 0 [AG Whole.D a,AG Whole.D b] [] (AG Whole.D r) []:=
 ay 10 (.call [] [] (IJ a.Mag b.Mag) .no fun x0=>.br 100000017 (.call [] [] (jE a.Neg x0.1) .no fun x1=>.ret x1) (.call [] [] (IJ b.Mag a.Mag) .no fun x1=>.call [] [] (jE b.Neg x1.1) .no fun x2=>.ret x2)) Tryz.func167
def xW (a:Whole) (b:Whole):Option Whole:=bif a.Neg==b.Neg then (EI a b).bind fun x0=>some x0 else (xI a b).bind fun x0=>some x0
theorem Xo (a:Whole) (b:Whole):∀r,xW a b=some r->au Tryz.prog 120 0 [AG Whole.D a,AG Whole.D b] [] (AG Whole.D r) []:=
 ay 10 (.br 100000011 (.call [] [] (Rn a b) .no fun x0=>.ret x0) (.call [] [] (Pz a b) .no fun x0=>.ret x0)) Tryz.func120
def Bz (a:Whole) (b:Whole):Option Whole:=(mY a.Mag b.Mag).bind fun x0=>(iE (!(a.Neg==b.Neg)) x0).bind fun x1=>some x1
theorem JM (a:Whole) (b:Whole):∀r,Bz a b=some r->au Tryz.prog 121 0 [AG Whole.D a,AG Whole.D b] [] (AG Whole.D r) []:=
 ay 10 (.call [] [] (oH a.Mag b.Mag) .no fun x0=>.call [] [] (jE (!(a.Neg==b.Neg)) x0) .no fun x1=>.ret x1) Tryz.func121
def lW (neg:Bool) (n:List Int) (d:List Int):Option Rat:=(uG n d).bind fun x0=>bif !x0.2.2 then (pY 1).bind fun x1=>some (Rat.mk false [] x1) else bif ((x0.1.length:Nat):Int)==0 then (pY 1).bind fun x1=>some (Rat.mk false [] x1) else some (Rat.mk neg x0.1 x0.2.1)
theorem pO (neg:Bool) (n:List Int) (d:List Int):∀r,lW neg n d=some r->au Tryz.prog 115 0 [B neg,SL (cI .u32) n,SL (cI .u32) d] [] (AG Rat.D r) []:=
 ay 10 (.call [] [] (Ny n d) .no fun x0=>.br 20006 (.call [] [] (kY 1) .no fun x1=>.ps 1000003 [.b 10] (.ret (Rat.mk false [] x1))) (.op 20008 (.ln (cI .u32) x0.1) (.br 100000023 (.call [] [] (kY 1) .no fun x1=>.ps 1000003 [.b 10] (.ret (Rat.mk false [] x1))) (.ret (Rat.mk neg x0.1 x0.2.1))))) Tryz.func115
def Az (a:Rat):Option Rat:=(lW a.Neg a.Num a.Den).bind fun x0=>some x0
theorem Jy (a:Rat):∀r,Az a=some r->au Tryz.prog 81 0 [AG Rat.D a] [] (AG Rat.D r) []:=
 ay 10 (.call [] [] (pO a.Neg a.Num a.Den) .no fun x0=>.ret x0) Tryz.func81
def rX (n:Int):Option Rat:=(EK n).bind fun x0=>(pY 1).bind fun x1=>(lW x0.Neg x0.Mag x1).bind fun x2=>some x2
theorem qm (n:Int):∀r,rX n=some r->au Tryz.prog 80 0 [I n] [] (AG Rat.D r) []:=
 ay 10 (.call [] [] (Zl n) .no fun x0=>.call [] [] (kY 1) .no fun x1=>.call [] [] (pO x0.Neg x0.Mag x1) .no fun x2=>.ret x2) Tryz.func80
def ED (a:Rat):Option BK:=(Az a).bind fun x0=>some (BK.mk (DW.mk x0))
theorem OJ (a:Rat):∀r,ED a=some r->au Tryz.prog 119 0 [AG Rat.D a] [] (AG BK.D r) []:=
 ay 10 (.call [] [] (Jy a) .no fun x0=>.ret (BK.mk (DW.mk x0))) Tryz.func119
def lV (h:DW):Option Whole:=some (Whole.mk h.Rat.Neg h.Rat.Num)
theorem tq (h:DW):∀r,lV h=some r->au Tryz.prog 122 0 [AG DW.D h] [] (AG Whole.D r) []:=
 ay 10 (.ret (Whole.mk h.Rat.Neg h.Rat.Num)) Tryz.func122
def lT (h:DW):Option Whole:=some (Whole.mk false h.Rat.Den)
theorem sQ (h:DW):∀r,lT h=some r->au Tryz.prog 123 0 [AG DW.D h] [] (AG Whole.D r) []:=
 ay 10 (.ret (Whole.mk false h.Rat.Den)) Tryz.func123
def mX (a:Rat) (b:Rat):Option Rat:=(ED a).bind fun x0=>(ED b).bind fun x1=>(lV x0.halves).bind fun x2=>(lT x1.halves).bind fun x3=>(Bz x2 x3).bind fun x4=>(lV x1.halves).bind fun x5=>(lT x0.halves).bind fun x6=>(Bz x5 x6).bind fun x7=>(xW x4 x7).bind fun x8=>(mY x0.halves.Rat.Den x1.halves.Rat.Den).bind fun x9=>(lW x8.Neg x8.Mag x9).bind fun x10=>some x10
theorem rY (a:Rat) (b:Rat):∀r,mX a b=some r->au Tryz.prog 59 0 [AG Rat.D a,AG Rat.D b] [] (AG Rat.D r) []:=
 ay 10 (.call [] [] (OJ a) .no fun x0=>.call [] [] (OJ b) .no fun x1=>.call [] [] (tq x0.halves) .no fun x2=>.call [] [] (sQ x1.halves) .no fun x3=>.call [] [] (JM x2 x3) .no fun x4=>.call [] [] (tq x1.halves) .no fun x5=>.call [] [] (sQ x0.halves) .no fun x6=>.call [] [] (JM x5 x6) .no fun x7=>.call [] [] (Xo x4 x7) .no fun x8=>.call [] [] (oH x0.halves.Rat.Den x1.halves.Rat.Den) .no fun x9=>.call [] [] (pO x8.Neg x8.Mag x9) .no fun x10=>.ret x10) Tryz.func59
def mZ (a:Rat) (b:Rat):Option Rat:=(mY a.Num b.Num).bind fun x0=>(mY a.Den b.Den).bind fun x1=>(lW (!(a.Neg==b.Neg)) x0 x1).bind fun x2=>some x2
theorem xC (a:Rat) (b:Rat):∀r,mZ a b=some r->au Tryz.prog 56 0 [AG Rat.D a,AG Rat.D b] [] (AG Rat.D r) []:=
 ay 10 (.call [] [] (oH a.Num b.Num) .no fun x0=>.call [] [] (oH a.Den b.Den) .no fun x1=>.call [] [] (pO (!(a.Neg==b.Neg)) x0 x1) .no fun x2=>.ret x2) Tryz.func56
end Go.Ab.M
