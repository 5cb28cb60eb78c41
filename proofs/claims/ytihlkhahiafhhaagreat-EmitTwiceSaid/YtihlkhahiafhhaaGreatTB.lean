import Derived.Test.YtihlkhahiafhhaaGreatTA
namespace Go.Ab.M
open Go.Proofs
set_option linter.unusedVariables false
set_option linter.defProp false
set_option maxRecDepth 100000
def abx (l:List Int) (n:Int):St:=⟨19,0,[(0,SL K2 l),(3,I n)],[]⟩
def abY (l:List Int) (n:Int):St:=⟨19,0,[(3,I n)],[]⟩
def wY (l:List Int) (n:Int):Option (Int⊕Int):=bif decide (n>0) then G2 (n-1)<|G1 (0<=n-1)<|G1 ((n-1).toNat<l.length)<|bif (nth l ((n-1).toNat))==0 then G2 (n-1)<|some (.inl (n-1)) else some (.inr n) else some (.inr n)
theorem ab7 (l:List Int):∀σ:Int,aO Tryz.prog (nav [1,1,0,0,0] (aK Tryz.f175)) (fun (σ:Int)=>abx l σ) (fun (_:Int)=>(.exit 0)) (fun (y:Int)=>abY l y) σ (wY l σ)
 | n=>aI 1010 (.br 20006 (.op 20012 (.el K2 l .dn) (.br 100000015 (G3 [0,3] [] (.ret (.inl (n-1)))) (G3 [3] [] (.ret (.inr n))))) (G3 [3] [] (.ret (.inr n))))
def Y4 (l:List Int) (n:Int):Option Int:=aQ (fun (σ:Int)=>wY l σ) FU n
def abD (l:List Int) (n:Int):=
 aX (ab7 l) (fun _ h=>by cases h) FU n
def wK (l:List Int):Option Int:=(Y4 l (l.length:Int)).bind fun x0=>some x0
theorem tH (l:List Int):∀r,wK l=some r->aj Tryz.prog 175 0 [SL K2 l] [] (I r) []:=
 ak 10 (.op 10002 (.ln K2 l) (G4 [0,3] [] (.lp1 0 (abD l (l.length:Int)) fun x0=>.ret x0))) Tryz.func175
def mW (x:Int):Option Int:=let y3:=((dF.get! ((IntKind.wrap .u8 x).toNat)).toNat:Int);let y4:=cZ .u32 x 16;let y1:=((dF.get! ((IntKind.wrap .u8 y4).toNat)).toNat:Int);let y5:=cZ .u32 y4 8;let y0:=((dF.get! ((IntKind.wrap .u8 y5).toNat)).toNat:Int);let y6:=cZ .u32 x 8;let y2:=((dF.get! ((IntKind.wrap .u8 y6).toNat)).toNat:Int);bif decide (x>=65536) then bif decide (y4>=256) then G1 (0<=IntKind.wrap .u8 y5)<|G1 ((IntKind.wrap .u8 y5).toNat<dF.size)<|G2 y0<|G2 ((16+8)+y0)<|some ((16+8)+y0) else G1 (0<=IntKind.wrap .u8 y4)<|G1 ((IntKind.wrap .u8 y4).toNat<dF.size)<|G2 y1<|G2 (16+y1)<|some (16+y1) else bif decide (x>=256) then G1 (0<=IntKind.wrap .u8 y6)<|G1 ((IntKind.wrap .u8 y6).toNat<dF.size)<|G2 y2<|G2 ((0+8)+y2)<|some ((0+8)+y2) else G1 (0<=IntKind.wrap .u8 x)<|G1 ((IntKind.wrap .u8 x).toNat<dF.size)<|G2 y3<|G2 (0+y3)<|some (0+y3)
theorem Qu (x:Int):∀r,mW x=some r->aj Tryz.prog 141 0 [NI .u32 x] [] (I r) []:=
 let y0:=cZ .u32 x 16;ak 10 (.br 100000004 (.br 100000008 (.op 70004 .wr (.op 70006 (.ch dF .dn) (.ret ((16+8)+((dF.get! ((IntKind.wrap .u8 (cZ .u32 y0 8)).toNat)).toNat:Int))))) (.op 70004 .wr (.op 70006 (.ch dF .dn) (.ret (16+((dF.get! ((IntKind.wrap .u8 y0).toNat)).toNat:Int)))))) (.br 100000008 (.op 70004 .wr (.op 70006 (.ch dF .dn) (.ret ((0+8)+((dF.get! ((IntKind.wrap .u8 (cZ .u32 x 8)).toNat)).toNat:Int))))) (.op 70004 .wr (.op 70006 (.ch dF .dn) (.ret (0+((dF.get! ((IntKind.wrap .u8 x).toNat)).toNat:Int))))))) Tryz.func141
def xX (a:Int):Option Int:=(mW a).bind fun x0=>some x0
theorem Rk (a:Int):∀r,xX a=some r->aj Tryz.prog 226 0 [NI .u32 a] [] (I r) []:=
 ak 10 (.call [] [] (Qu a) .no fun x0=>.ret x0) Tryz.func226
def nU (a:List Int):Option Int:=(wK a).bind fun x0=>bif x0==0 then some 0 else G2 (x0-1)<|G2 (32*(x0-1))<|G2 (x0-1)<|G1 (0<=x0-1)<|G1 ((x0-1).toNat<a.length)<|(xX (nth a ((x0-1).toNat))).bind fun x1=>G2 ((32*(x0-1))+x1)<|some ((32*(x0-1))+x1)
theorem yC (a:List Int):∀r,nU a=some r->aj Tryz.prog 172 0 [SL K2 a] [] (I r) []:=
 ak 10 (.call [] [] (tH a) .no fun x0=>.br 100000007 (.ret 0) (.op 40012 (.el K2 a .dn) (.call [] [] (Rk (nth a ((x0-1).toNat))) .no fun x1=>.ret ((32*(x0-1))+x1)))) Tryz.func172
def jv (a:List Int):Option (List Int):=(wK a).bind fun x0=>bif x0==0 then some [] else G1 (0<=x0)<|G1 (x0.toNat<=2147483648)<|some (a.take (List.replicate x0.toNat 0:List Int).length++(List.replicate x0.toNat 0:List Int).drop a.length)
theorem jm (a:List Int):∀r,jv a=some r->aj Tryz.prog 115 0 [SL K2 a] [] (SL K2 r) []:=
 ak 10 (.call [] [] (tH a) .no fun x0=>.br 100000008 (.ps 1000003 [.n 2] (.ret [])) (.op 40002 (.mk K2 0 .dn) (.op 50004 (.ap K2 (List.replicate x0.toNat 0) a 1 fun _=>⟨rfl,rfl⟩) (.ps 1000003 [.z 2] (.ret (a.take (List.replicate x0.toNat 0:List Int).length++(List.replicate x0.toNat 0:List Int).drop a.length)))))) Tryz.func115
def aaN (l:List Int) (n:Int) (i:Nat):St:=⟨18,0,[(3,NI .u64 n),(6,SL K2 l),(7,I (l.length:Int)),(8,I (i:Int))],[]⟩
def aaZ (l:List Int) (n:Int):St:=⟨18,0,[(3,NI .u64 n)],[]⟩
def bW (l:List Int) (n:Int) (i:Nat):Option ((Int×Nat)⊕Int):=bif decide ((i:Int)<(l.length:Int)) then G1 (i<l.length)<|bif inK .u64 (nth l i) then G2 ((i:Int)+1)<|some (.inl (IntKind.wrap .u64 (n+(nth l i)),i+1)) else none else some (.inr n)
theorem aaU (l:List Int):∀σ:Int×Nat,aO Tryz.prog (nav [1,1,0,1,0,0] (aK Tryz.f225)) (fun (σ:Int×Nat)=>aaN l σ.1 σ.2) (fun (_:Int)=>(.exit 0)) (fun (y:Int)=>aaZ l y) σ (bW l σ.1 σ.2)
 | (n,i)=>aI 1010 (.br 100000009 (.op 40000 (.el K2 l (.up i)) (G3 [3,6,7,8] [] (.ret (.inl (IntKind.wrap .u64 (n+(nth l i)),i+1))))) (G3 [3] [] (.ret (.inr n))))
def Ba (l:List Int) (n:Int) (i:Nat):Option Int:=aQ (fun (σ:Int×Nat)=>bW l σ.1 σ.2) FU (n,i)
def ZO (l:List Int) (n:Int) (i:Nat):=
 aX (aaU l) (fun _ h=>by cases h) FU (n,i)
def pG (l:List Int):Option Int:=(Ba l 0 0).bind fun x0=>some x0
theorem CO (l:List Int):∀r,pG l=some r->aj Tryz.prog 225 0 [SL K2 l] [] (NI .u64 r) []:=
 ak 10 (.op 20002 (.ln K2 l) (G4 [3,6,7,8] [] (.lp1 0 (ZO l 0 0) fun x0=>.ret x0))) Tryz.func225
def zY (n:Int):Option (Int×Int):=some (IntKind.wrap .u32 (cZ .u64 n 32),IntKind.wrap .u32 n)
theorem FZ (n:Int):∀r,zY n=some r->aj Tryz.prog 224 0 [NI .u64 n] [] (.tup [NI .u32 r.1,NI .u32 r.2]) []:=
 ak 10 (.op 10004 .wr (.op 10008 .wr (.ret (IntKind.wrap .u32 (cZ .u64 n 32),IntKind.wrap .u32 n)))) Tryz.func224
def KT (a:Int) (b:Int) (c:Int) (d:Int):Option (Int×Int):=bif inK .u64 a then bif inK .u64 b then (pG [c,d]).bind fun x0=>(zY (IntKind.wrap .u64 ((IntKind.wrap .u64 (a*b))+x0))).bind fun x1=>some (x1.1,x1.2) else none else none
theorem V8 (a:Int) (b:Int) (c:Int) (d:Int):∀r,KT a b c d=some r->aj Tryz.prog 258 0 [NI .u32 a,NI .u32 b,NI .u32 c,NI .u32 d] [] (.tup [NI .u32 r.1,NI .u32 r.2]) []:=
 ak 10 (.call [] [] (CO [c,d]) (.yes fun _=>⟨rfl,trivial⟩) fun x0=>.call [] [] (FZ (IntKind.wrap .u64 ((IntKind.wrap .u64 (a*b))+x0))) .no fun x1=>.ret (x1.1,x1.2)) Tryz.func258
def XA (gq:Nat) (a:List Int) (w:Int) (c1:Int) (i:Nat) (out:List Int):St:=⟨37,1,[(0,.msl 0 0 none (some gq)),(1,SL K2 a),(2,NI .u32 w),(3,NI .u32 c1),(10,SL K2 a),(11,I (a.length:Int)),(12,I (i:Int))],[(0,ROW 1 K2 out 0)]⟩
def WY (gq:Nat) (a:List Int) (w:Int) (c1:Int) (out:List Int):St:=⟨37,1,[(0,.msl 0 0 none (some gq)),(1,SL K2 a),(3,NI .u32 c1)],[(0,ROW 1 K2 out 0)]⟩
def xq (gq:Nat) (a:List Int) (w:Int) (c1:Int) (i:Nat) (out:List Int):Option ((Int×Nat×List Int)⊕(Int×List Int)):=let y0:=i<out.length;bif decide ((i:Int)<(a.length:Int)) then G1 (i<a.length)<|G1 y0<|G1 y0<|(KT (nth a i) w (nth out i) c1).bind fun x0=>G1 y0<|G1 y0<|G2 ((i:Int)+1)<|some (.inl (x0.1,i+1,out.set i x0.2)) else some (.inr (c1,out))
theorem Xq (gq:Nat) (a:List Int) (w:Int):∀σ:Int×Nat×List Int,aO Tryz.prog (nav [0,1,0,0] (aK Tryz.f238)) (fun (σ:Int×Nat×List Int)=>XA gq a w σ.1 σ.2.1 σ.2.2) (fun (_:Int×List Int)=>(.exit 0)) (fun (y:Int×List Int)=>WY gq a w y.1 y.2) σ (xq gq a w σ.1 σ.2.1 σ.2.2)
 | (c1,i,out)=>aI 1010 (.br 100000013 (.op 20002 (.el K2 a (.up i)) (.op 30012 (.el K2 out (.up i)) (.op 30014 (.ld K2 out) (.call [] [] (V8 (nth a i) w (nth out i) c1) .no fun x0=>.op 30028 (.el K2 out (.up i)) (.op 30030 (.st K2 out x0.2) (G3 [0,1,2,3,10,11,12] [0] (.ret (.inl (x0.1,i+1,out.set i x0.2))))))))) (G3 [0,1,3] [0] (.ret (.inr (c1,out)))))
def RJ (gq:Nat) (a:List Int) (w:Int) (c1:Int) (i:Nat) (out:List Int):Option (Int×List Int):=aQ (fun (σ:Int×Nat×List Int)=>xq gq a w σ.1 σ.2.1 σ.2.2) FU (c1,i,out)
def XE (gq:Nat) (a:List Int) (w:Int) (c1:Int) (i:Nat) (out:List Int):=
 aX (Xq gq a w) (fun _ h=>by cases h) FU (c1,i,out)
def Jq (o0:List Int) (gq:Nat) (a:List Int) (w:Int) (c:Int):Option (List Int):=(RJ gq a w c 0 o0).bind fun x0=>G1 (a.length<x0.2.length)<|G1 (a.length<x0.2.length)<|some (x0.2.set a.length x0.1)
theorem acn (o0:List Int) (gq:Nat) (a:List Int) (w:Int) (c:Int):∀r,Jq o0 gq a w c=some r->aj Tryz.prog 238 1 [.msl 0 0 none (some gq),SL K2 a,NI .u32 w,NI .u32 c] [(0,ROW 1 K2 o0 0)] (.tup []) [(0,ROW 1 K2 r 0)]:=
 ak 10 (.op 2 (.ln K2 a) (G4 [0,1,2,3,10,11,12] [0] (.lp1 0 (XE gq a w c 0 o0) fun x0=>.op 50004 (.ln K2 a) (.op 50008 (.el K2 x0.2 (.up a.length)) (.op 50010 (.st K2 x0.2 x0.1) (.ret (x0.2.set a.length x0.1))))))) Tryz.func238
def Gw (a:List Int) (w:Int) (c:Int):Option (List Int):=G2 ((a.length:Int)+1)<|G1 (a.length+1<=2147483648)<|(Jq (List.replicate (a.length+1) 0) (a.length+1) a w c).bind fun x0=>(jv x0).bind fun x1=>some x1
theorem QZ (a:List Int) (w:Int) (c:Int):∀r,Gw a w c=some r->aj Tryz.prog 252 0 [SL K2 a,NI .u32 w,NI .u32 c] [] (SL K2 r) []:=
 let y0:=a.length+1;ak 10 (.op 10002 (.ln K2 a) (.op 10006 (.mk K2 0 (.up y0)) (.call [10] [] (acn (List.replicate y0 0) y0 a w c) .no fun x0=>.call [] [] (jm x0) .no fun x1=>.ret x1))) Tryz.func252
def AV (a:List Int) (n:Int):Option (List Int):=G1 (0<=mxI 0 (mnI n 100000))<|G1 (0<32)<|G1 (mxI 0 (mnI n 100000)<=Go.Ab.hi .i64)<|G1 (0<=(mxI 0 (mnI n 100000))/32)<|G1 (((mxI 0 (mnI n 100000))/32).toNat<=2147483648)<|G1 (0<=mxI 0 (mnI n 100000))<|G1 (0<32)<|G1 (0<=(mxI 0 (mnI n 100000))%32)<|(Gw a (RH .u32 1 ((mxI 0 (mnI n 100000))%32)) 0).bind fun x0=>G1 ((List.replicate (((mxI 0 (mnI n 100000))/32).toNat) 0:List Int).length+x0.length<=2147483648)<|(jv ((List.replicate (((mxI 0 (mnI n 100000))/32).toNat) 0)++x0)).bind fun x1=>some x1
theorem Kz (a:List Int) (n:Int):∀r,AV a n=some r->aj Tryz.prog 228 0 [SL K2 a,I n] [] (SL K2 r) []:=
 let y0:=List.replicate (((mxI 0 (mnI n 100000))/32).toNat) 0;ak 10 (.op 20004 (.mk K2 0 .dn) (.call [] [] (QZ a (RH .u32 1 ((mxI 0 (mnI n 100000))%32)) 0) .no fun x0=>.op 30012 (.ap K2 y0 x0 1 fun _=>⟨rfl,rfl⟩) (.call [] [] (jm (y0++x0)) .no fun x1=>.ret x1))) Tryz.func228
def zu (hi:Int) (lo:Int) (d:Int):Option (Int×Int×Bool):=let y0:=RH .u64 hi 32;let y1:=0<=adL .u64 y0 lo;let y2:=adL .u64 y0 lo;bif decide (hi>=d) then some (0,0,false) else bif inK .u64 hi then bif inK .u64 lo then bif inK .u64 d then G1 y1<|G1 (0<d)<|G1 (adL .u64 y0 lo<=Go.Ab.hi .u64)<|bif inK .u64 d then G1 y1<|G1 (0<d)<|some (IntKind.wrap .u32 (y2/d),IntKind.wrap .u32 (y2%d),true) else none else none else none else none
theorem L8 (hi:Int) (lo:Int) (d:Int):∀r,zu hi lo d=some r->aj Tryz.prog 255 0 [NI .u32 hi,NI .u32 lo,NI .u32 d] [] (.tup [NI .u32 r.1,NI .u32 r.2.1,B r.2.2]) []:=
 let y0:=adL .u64 (RH .u64 hi 32) lo;ak 10 (.br 100000012 (.ret (0,0,false)) (.op 40008 .wr (.op 40018 .wr (.ret (IntKind.wrap .u32 (y0/d),IntKind.wrap .u32 (y0%d),true))))) Tryz.func255
def uj (rest:List Int) (b:List Int):Option Int:=let y0:=(b.length:Int);let y1:=(y0-1).toNat;let y2:=(y0-1).toNat<rest.length;let y3:=(y0-1).toNat<b.length;let y4:=(rest.length:Int);let y5:=nth rest y1;bif decide (y4<y0) then some 0 else bif decide (y4>y0) then G1 (b.length<rest.length)<|G2 (y0-1)<|G1 (0<=y0-1)<|G1 y2<|G2 (y0-1)<|G1 (0<=y0-1)<|G1 y3<|(zu (nth rest b.length) y5 (nth b y1)).bind fun x0=>bif !x0.2.2 then some 4294967295 else some x0.1 else G2 (y0-1)<|G1 (0<=y0-1)<|G1 y2<|G2 (y0-1)<|G1 (0<=y0-1)<|G1 y3<|(zu 0 y5 (nth b y1)).bind fun x0=>bif !x0.2.2 then some 4294967295 else some x0.1
theorem Zw (rest:List Int) (b:List Int):∀r,uj rest b=some r->aj Tryz.prog 253 0 [SL K2 rest,SL K2 b] [] (NI .u32 r) []:=
 let y0:=((b.length:Int)-1).toNat;let y1:=nth rest y0;ak 10 (.op 10002 (.ln K2 b) (.op 20002 (.ln K2 rest) (.br 100000015 (.ret 0) (.op 50002 (.ln K2 rest) (.br 100000019 (.op 60004 (.el K2 rest (.up b.length)) (.op 70008 (.el K2 rest .dn) (.op 70018 (.el K2 b .dn) (.call [] [] (L8 (nth rest b.length) y1 (nth b y0)) .no fun x0=>.br 100000041 (.ret 4294967295) (.ret x0.1))))) (.op 70008 (.el K2 rest .dn) (.op 70018 (.el K2 b .dn) (.call [] [] (L8 0 y1 (nth b y0)) .no fun x0=>.br 100000041 (.ret 4294967295) (.ret x0.1))))))))) Tryz.func253
def cmp_Compare_int (x:Int) (y:Int):Option Int:=(cmp_isNaN_int x).bind fun x0=>(cmp_isNaN_int y).bind fun x1=>bif x0 then bif x1 then some 0 else some (-1) else bif x1 then some 1 else bif decide (x<y) then some (-1) else bif decide (x>y) then some 1 else some 0
theorem iE (x:Int) (y:Int):∀r,cmp_Compare_int x y=some r->aj Tryz.prog 131 0 [I x,I y] [] (I r) []:=
 ak 10 (.call [] [] (vC x) .no fun x0=>.call [] [] (vC y) .no fun x1=>.br 100000011 (.br 100000012 (.ret 0) (.ret (-1))) (.br 100000013 (.ret 1) (.br 100000016 (.ret (-1)) (.br 100000019 (.ret 1) (.ret 0))))) Tryz.func131
def vw (x:Int):Option Bool:=some (x != x)
theorem Cj (x:Int):∀r,vw x=some r->aj Tryz.prog 256 0 [NI .u32 x] [] (B r) []:=
 ak 10 (.ret (x != x)) Tryz.func256
def qp (x:Int) (y:Int):Option Int:=(vw x).bind fun x0=>(vw y).bind fun x1=>bif x0 then bif x1 then some 0 else some (-1) else bif x1 then some 1 else bif decide (x<y) then some (-1) else bif decide (x>y) then some 1 else some 0
theorem Kq (x:Int) (y:Int):∀r,qp x y=some r->aj Tryz.prog 234 0 [NI .u32 x,NI .u32 y] [] (I r) []:=
 ak 10 (.call [] [] (Cj x) .no fun x0=>.call [] [] (Cj y) .no fun x1=>.br 100000011 (.br 100000012 (.ret 0) (.ret (-1))) (.br 100000013 (.ret 1) (.br 100000016 (.ret (-1)) (.br 100000019 (.ret 1) (.ret 0))))) Tryz.func234
def aen (a:List Int) (b:List Int) (x0:Int) (i:Nat):St:=⟨41,0,[(0,SL K2 a),(1,SL K2 b),(5,I x0),(18,I x0),(19,I (i:Int))],[]⟩
def aew (a:List Int) (b:List Int) (x0:Int) (i:Int):St:=⟨41,0,[(4,I i)],[]⟩
def aeC (a:List Int) (b:List Int) (x0:Int):St:=⟨41,0,[],[]⟩
def lg (a:List Int) (b:List Int) (x0:Int) (i:Nat):Option (Nat⊕(Int⊕Unit)):=let y0:=(x0-1)-(i:Int);let y1:=0<=(x0-1)-(i:Int);bif decide ((i:Int)<x0) then G2 (x0-1)<|G2 y0<|G1 y1<|G1 (y0.toNat<a.length)<|G2 (x0-1)<|G2 y0<|G1 y1<|G1 (y0.toNat<b.length)<|(qp (nth a (y0.toNat)) (nth b (y0.toNat))).bind fun x3=>bif x3 != 0 then some (.inr (.inl x3)) else G2 ((i:Int)+1)<|some (.inl (i+1)) else some (.inr (.inr ()))
theorem ad4 (a:List Int) (b:List Int) (x0:Int):∀σ:Nat,aO Tryz.prog (nav [1,1,1,0,1,0,0] (aK Tryz.f186)) (fun (σ:Nat)=>aen a b x0 σ) (fun (y:Int⊕Unit)=>bF y (fun _=>.ret) (fun _=>(.exit 0))) (fun (y:Int⊕Unit)=>bF y (fun y=>aew a b x0 y) (fun y=>aeC a b x0)) σ (lg a b x0 σ)
 | i=>let y0:=((x0-1)-(i:Int)).toNat;aI 1010 (.br 100000020 (.op 80010 (.el K2 a .dn) (.op 80024 (.el K2 b .dn) (.call [] [] (Kq (nth a y0) (nth b y0)) .no fun x3=>.br 100000038 (G3 [4] [] (.ret (.inr (.inl x3)))) (G3 [0,1,5,18,19] [] (.ret (.inl (i+1))))))) (G3 [] [] (.ret (.inr (.inr ())))))
def VL (a:List Int) (b:List Int) (x0:Int) (i:Nat):Option (Int⊕Unit):=aQ (fun (σ:Nat)=>lg a b x0 σ) FU i
def aeP (a:List Int) (b:List Int) (x0:Int) (i:Nat):=
 aX (ad4 a b x0) (fun y h=>by rcases y with y | y<;>cases h) FU i
def Tt (a:List Int) (b:List Int):Option Int:=(wK a).bind fun x0=>(wK b).bind fun x1=>(cmp_Compare_int x0 x1).bind fun x2=>bif x2 != 0 then some x2 else (VL a b x0 0).bind fun y_=>bF y_ (fun x3=>some x3) (fun x4=>some 0)
theorem YX (a:List Int) (b:List Int):∀r,Tt a b=some r->aj Tryz.prog 186 0 [SL K2 a,SL K2 b] [] (I r) []:=
 ak 10 (.call [] [] (tH a) .no fun x0=>.call [] [] (tH b) .no fun x1=>.call [] [] (iE x0 x1) .no fun x2=>.br 100000016 (.ret x2) (G4 [0,1,5,18,19] [] (.lp2 0 (aeP a b x0 0) (fun x3=>.ret x3) (fun x4=>.ret 0)))) Tryz.func186
def O7 (a:List Int) (i:Int):Option Int:=bif decide (i<(a.length:Int)) then G1 (0<=i)<|G1 (i.toNat<a.length)<|some (nth a i.toNat) else some 0
theorem Vu (a:List Int) (i:Int):∀r,O7 a i=some r->aj Tryz.prog 171 0 [SL K2 a,I i] [] (NI .u32 r) []:=
 ak 10 (.op 10004 (.ln K2 a) (.br 100000008 (.op 20004 (.el K2 a .dn) (.ret (nth a i.toNat))) (.ret 0))) Tryz.func171
def RU (a:Int) (b:Int) (c:Int):Option (Int×Int):=(pG [b,c]).bind fun x0=>bif inK .u64 a then (pG [IntKind.wrap .u32 (IntKind.wrap .u64 (a-x0))]).bind fun x1=>(zY (IntKind.wrap .u64 (x1+x0))).bind fun x2=>some (IntKind.wrap .u32 (IntKind.wrap .u64 (a-x0)),x2.1) else none
theorem ae4 (a:Int) (b:Int) (c:Int):∀r,RU a b c=some r->aj Tryz.prog 269 0 [NI .u32 a,NI .u32 b,NI .u32 c] [] (.tup [NI .u32 r.1,NI .u32 r.2]) []:=
 ak 10 (.call [] [] (CO [b,c]) (.yes fun _=>⟨rfl,trivial⟩) fun x0=>.op 20008 .wr (.call [] [] (CO [IntKind.wrap .u32 (IntKind.wrap .u64 (a-x0))]) (.yes fun _=>⟨rfl,trivial⟩) fun x1=>.call [] [] (FZ (IntKind.wrap .u64 (x1+x0))) .no fun x2=>.ret (IntKind.wrap .u32 (IntKind.wrap .u64 (a-x0)),x2.1))) Tryz.func269
def adN (a:List Int) (b:List Int) (x1:Int) (borrow:Int) (i:Nat) (out:List Int):St:=⟨40,0,[(0,SL K2 a),(1,SL K2 b),(7,.msl 10 0 none (some x1.toNat)),(8,NI .u32 borrow),(18,I x1),(19,I (i:Int))],[(10,ROW 1 K2 out 0)]⟩
def aev (a:List Int) (b:List Int) (x1:Int) (out:List Int):St:=⟨40,0,[(7,.msl 10 0 none (some x1.toNat))],[(10,ROW 1 K2 out 0)]⟩
def yN (a:List Int) (b:List Int) (x1:Int) (borrow:Int) (i:Nat) (out:List Int):Option ((Int×Nat×List Int)⊕(List Int)):=let y0:=i<out.length;bif decide ((i:Int)<x1) then G1 (i<a.length)<|(O7 b (i:Int)).bind fun x2=>(RU (nth a i) x2 borrow).bind fun x3=>G1 y0<|G1 y0<|G2 ((i:Int)+1)<|some (.inl (x3.2,i+1,out.set i x3.1)) else some (.inr out)
theorem aeu (a:List Int) (b:List Int) (x1:Int):∀σ:Int×Nat×List Int,aO Tryz.prog (nav [1,1,1,1,1,0,1,0,0] (aK Tryz.f254)) (fun (σ:Int×Nat×List Int)=>adN a b x1 σ.1 σ.2.1 σ.2.2) (fun (_:List Int)=>(.exit 0)) (fun (y:List Int)=>aev a b x1 y) σ (yN a b x1 σ.1 σ.2.1 σ.2.2)
 | (borrow,i,out)=>aI 1010 (.br 100000020 (.op 90008 (.el K2 a (.up i)) (.call [] [] (Vu b (i:Int)) .no fun x2=>.call [] [] (ae4 (nth a i) x2 borrow) .no fun x3=>.op 90028 (.el K2 out (.up i)) (.op 90030 (.st K2 out x3.1) (G3 [0,1,7,8,18,19] [10] (.ret (.inl (x3.2,i+1,out.set i x3.1))))))) (G3 [7] [10] (.ret (.inr out))))
def VA (a:List Int) (b:List Int) (x1:Int) (borrow:Int) (i:Nat) (out:List Int):Option (List Int):=aQ (fun (σ:Int×Nat×List Int)=>yN a b x1 σ.1 σ.2.1 σ.2.2) FU (borrow,i,out)
def adx (a:List Int) (b:List Int) (x1:Int) (borrow:Int) (i:Nat) (out:List Int):=
 aX (aeu a b x1) (fun _ h=>by cases h) FU (borrow,i,out)
def NR (a:List Int) (b:List Int):Option (List Int×Bool):=(Tt a b).bind fun x0=>bif decide (x0<0) then some ([],false) else (wK a).bind fun x1=>G1 (0<=x1)<|G1 (x1.toNat<=2147483648)<|(VA a b x1 0 0 (List.replicate x1.toNat 0)).bind fun x2=>(jv x2).bind fun x3=>some (x3,true)
theorem QB (a:List Int) (b:List Int):∀r,NR a b=some r->aj Tryz.prog 254 0 [SL K2 a,SL K2 b] [] (.tup [SL K2 r.1,B r.2]) []:=
 ak 10 (.call [] [] (YX a b) .no fun x0=>.br 100000013 (.ps 1000003 [.n 4] (.ret ([],false))) (.call [] [] (tH a) .no fun x1=>.op 40002 (.mk K2 0 .dn) (G4 [0,1,7,8,18,19] [10] (.lp1 0 (adx a b x1 0 0 (List.replicate x1.toNat 0)) fun x2=>.call [] [] (jm x2) .no fun x3=>.ret (x3,true))))) Tryz.func254
def U1 (rest:List Int) (b:List Int) (q:Int):St:=⟨26,0,[(0,SL K2 rest),(1,SL K2 b),(6,NI .u32 q)],[]⟩
def Vg (rest:List Int) (b:List Int) (apB:List Int) (q:Int):St:=⟨26,0,[(0,SL K2 apB),(6,NI .u32 q)],[]⟩
def pz (rest:List Int) (b:List Int) (q:Int):Option (Int⊕(List Int×Int)):=(Gw b q 0).bind fun x1=>(NR rest x1).bind fun x2=>bif x2.2 then some (.inr (x2.1,q)) else some (.inl (IntKind.wrap .u32 (q-1)))
theorem U2 (rest:List Int) (b:List Int):∀σ:Int,aO Tryz.prog (nav [1,0,1,1,0,0,0] (aK Tryz.f229)) (fun (σ:Int)=>U1 rest b σ) (fun (_:List Int×Int)=>(.exit 0)) (fun (y:List Int×Int)=>Vg rest b y.1 y.2) σ (pz rest b σ)
 | q=>aI 1010 (.call [] [] (QZ b q 0) .no fun x1=>.call [] [] (QB rest x1) .no fun x2=>.br 100000020 (G3 [0,6] [] (.ret (.inr (x2.1,q)))) (G3 [0,1,6] [] (.ret (.inl (IntKind.wrap .u32 (q-1))))))
def F5 (rest:List Int) (b:List Int) (q:Int):Option (List Int×Int):=aQ (fun (σ:Int)=>pz rest b σ) FU q
def Uy (rest:List Int) (b:List Int) (q:Int):=
 aX (U2 rest b) (fun _ h=>by cases h) FU q
def AP (rest:List Int) (b:List Int):Option (Int×List Int):=(uj rest b).bind fun x0=>(F5 rest b x0).bind fun x1=>some (x1.2,x1.1)
theorem YT (rest:List Int) (b:List Int):∀r,AP rest b=some r->aj Tryz.prog 229 0 [SL K2 rest,SL K2 b] [] (.tup [NI .u32 r.1,SL K2 r.2]) []:=
 ak 10 (.call [] [] (Zw rest b) .no fun x0=>G4 [0,1,6] [] (.lp1 0 (Uy rest b x0) fun x1=>.ret (x1.2,x1.1))) Tryz.func229
def aaq (x1:Int) (x2:List Int) (x3:List Int) (i:List Int) (i1:Int) (o:List Int):St:=⟨74,0,[(0,SL K2 x2),(1,SL K2 x3),(4,.msl 10 0 none (some x2.length)),(5,SL K2 i),(7,I (32-x1)),(8,I i1)],[(10,ROW 1 K2 o 0)]⟩
def YP (x1:Int) (x2:List Int) (x3:List Int) (i:List Int) (o:List Int):St:=⟨74,0,[(4,.msl 10 0 none (some x2.length)),(5,SL K2 i),(7,I (32-x1))],[(10,ROW 1 K2 o 0)]⟩
def uh (x1:Int) (x2:List Int) (x3:List Int) (i:List Int) (i1:Int) (o:List Int):Option ((List Int×Int×List Int)⊕(List Int×List Int)):=let y0:=i1.toNat<o.length;bif decide (i1>=0) then G1 (0<=i1)<|G1 (i1.toNat<x2.length)<|G1 (1+i.length<=2147483648)<|(jv ([nth x2 i1.toNat]++i)).bind fun x4=>(AP x4 x3).bind fun x5=>G1 (0<=i1)<|G1 y0<|G1 y0<|G2 (i1-1)<|some (.inl (x5.2,i1-1,o.set i1.toNat x5.1)) else some (.inr (i,o))
theorem aax (x1:Int) (x2:List Int) (x3:List Int):∀σ:List Int×Int×List Int,aO Tryz.prog (nav [1,1,1,1,1,1,0,1,0,0] (aK Tryz.f174)) (fun (σ:List Int×Int×List Int)=>aaq x1 x2 x3 σ.1 σ.2.1 σ.2.2) (fun (_:List Int×List Int)=>(.exit 0)) (fun (y:List Int×List Int)=>YP x1 x2 x3 y.1 y.2) σ (uh x1 x2 x3 σ.1 σ.2.1 σ.2.2)
 | (i,i1,o)=>aI 1010 (.br 100000037 (.op 100008 (.el K2 x2 .dn) (.op 100016 (.ap K2 [nth x2 i1.toNat] i 1 fun _=>⟨rfl,rfl⟩) (.call [] [] (jm ([nth x2 i1.toNat]++i)) .no fun x4=>.call [] [] (YT x4 x3) .no fun x5=>.op 100030 (.el K2 o .dn) (.op 100032 (.st K2 o x5.1) (G3 [0,1,4,5,7,8] [10] (.ret (.inl (x5.2,i1-1,o.set i1.toNat x5.1)))))))) (G3 [4,5,7] [10] (.ret (.inr (i,o)))))
def FI (x1:Int) (x2:List Int) (x3:List Int) (i:List Int) (i1:Int) (o:List Int):Option (List Int×List Int):=aQ (fun (σ:List Int×Int×List Int)=>uh x1 x2 x3 σ.1 σ.2.1 σ.2.2) FU (i,i1,o)
def aao (x1:Int) (x2:List Int) (x3:List Int) (i:List Int) (i1:Int) (o:List Int):=
 aX (aax x1 x2 x3) (fun _ h=>by cases h) FU (i,i1,o)
def xH (n:Int):Option (List Int):=(jv [IntKind.wrap .u32 n,IntKind.wrap .u32 (cZ .u64 n 32)]).bind fun x0=>some x0
theorem pq (n:Int):∀r,xH n=some r->aj Tryz.prog 67 0 [NI .u64 n] [] (SL K2 r) []:=
 ak 10 (.op 10002 .wr (.op 10008 .wr (.call [] [] (jm [IntKind.wrap .u32 n,IntKind.wrap .u32 (cZ .u64 n 32)]) .no fun x0=>.ret x0))) Tryz.func67
def TS (oV:Nat) (wX:Nat) (gq:Nat) (a:List Int) (w:Int) (c1:Int) (i:Nat) (out:List Int):St:=⟨37,1,[(0,.msl 0 oV (some wX) (some gq)),(1,SL K2 a),(2,NI .u32 w),(3,NI .u32 c1),(10,SL K2 a),(11,I (a.length:Int)),(12,I (i:Int))],[(0,ROW 1 K2 out 0)]⟩
def Sl (oV:Nat) (wX:Nat) (gq:Nat) (a:List Int) (w:Int) (c1:Int) (out:List Int):St:=⟨37,1,[(0,.msl 0 oV (some wX) (some gq)),(1,SL K2 a),(3,NI .u32 c1)],[(0,ROW 1 K2 out 0)]⟩
def iT (oV:Nat) (wX:Nat) (gq:Nat) (a:List Int) (w:Int) (c1:Int) (i:Nat) (out:List Int):Option ((Int×Nat×List Int)⊕(Int×List Int)):=let y0:=plus oV i<out.length;bif decide ((i:Int)<(a.length:Int)) then G1 (i<a.length)<|G1 (i<wX)<|G1 y0<|(KT (nth a i) w (nth out (plus oV i)) c1).bind fun x0=>G1 (i<wX)<|G1 y0<|G2 ((i:Int)+1)<|some (.inl (x0.1,i+1,out.set (plus oV i) x0.2)) else some (.inr (c1,out))
theorem RN (oV:Nat) (wX:Nat) (gq:Nat) (a:List Int) (w:Int):∀σ:Int×Nat×List Int,aO Tryz.prog (nav [0,1,0,0] (aK Tryz.f238)) (fun (σ:Int×Nat×List Int)=>TS oV wX gq a w σ.1 σ.2.1 σ.2.2) (fun (_:Int×List Int)=>(.exit 0)) (fun (y:Int×List Int)=>Sl oV wX gq a w y.1 y.2) σ (iT oV wX gq a w σ.1 σ.2.1 σ.2.2)
 | (c1,i,out)=>aI 1010 (.br 100000013 (.op 20002 (.el K2 a (.up i)) (.op 30012 (.el K2 out (.up i)) (.op 30014 (.ld K2 out) (.call [] [] (V8 (nth a i) w (nth out (plus oV i)) c1) .no fun x0=>.op 30028 (.el K2 out (.up i)) (.op 30030 (.st K2 out x0.2) (G3 [0,1,2,3,10,11,12] [0] (.ret (.inl (x0.1,i+1,out.set (plus oV i) x0.2))))))))) (G3 [0,1,3] [0] (.ret (.inr (c1,out)))))
def Kv (oV:Nat) (wX:Nat) (gq:Nat) (a:List Int) (w:Int) (c1:Int) (i:Nat) (out:List Int):Option (Int×List Int):=aQ (fun (σ:Int×Nat×List Int)=>iT oV wX gq a w σ.1 σ.2.1 σ.2.2) FU (c1,i,out)
def Tm (oV:Nat) (wX:Nat) (gq:Nat) (a:List Int) (w:Int) (c1:Int) (i:Nat) (out:List Int):=
 aX (RN oV wX gq a w) (fun _ h=>by cases h) FU (c1,i,out)
def Dw (o0:List Int) (oV:Nat) (wX:Nat) (gq:Nat) (a:List Int) (w:Int) (c:Int):Option (List Int):=(Kv oV wX gq a w c 0 o0).bind fun x0=>G1 (a.length<wX)<|G1 (plus oV a.length<x0.2.length)<|some (x0.2.set (plus oV a.length) x0.1)
theorem XV (o0:List Int) (oV:Nat) (wX:Nat) (gq:Nat) (a:List Int) (w:Int) (c:Int):∀r,Dw o0 oV wX gq a w c=some r->aj Tryz.prog 238 1 [.msl 0 oV (some wX) (some gq),SL K2 a,NI .u32 w,NI .u32 c] [(0,ROW 1 K2 o0 0)] (.tup []) [(0,ROW 1 K2 r 0)]:=
 ak 10 (.op 2 (.ln K2 a) (G4 [0,1,2,3,10,11,12] [0] (.lp1 0 (Tm oV wX gq a w c 0 o0) fun x0=>.op 50004 (.ln K2 a) (.op 50008 (.el K2 x0.2 (.up a.length)) (.op 50010 (.st K2 x0.2 x0.1) (.ret (x0.2.set (plus oV a.length) x0.1))))))) Tryz.func238
def aan (a:List Int) (b:List Int) (i:Nat) (out:List Int):St:=⟨39,0,[(0,SL K2 a),(5,.msl 10 0 none (some ((a.length+b.length)+1))),(16,SL K2 b),(17,I (b.length:Int)),(18,I (i:Int))],[(10,ROW 1 K2 out 0)]⟩
def ZJ (a:List Int) (b:List Int) (out:List Int):St:=⟨39,0,[(5,.msl 10 0 none (some ((a.length+b.length)+1)))],[(10,ROW 1 K2 out 0)]⟩
def uH (a:List Int) (b:List Int) (i:Nat) (out:List Int):Option ((Nat×List Int)⊕(List Int)):=let y0:=i+a.length;let y1:=y0+1<=(a.length+b.length)+1;let y2:=(i:Int)+(a.length:Int);bif decide ((i:Int)<(b.length:Int)) then G1 (i<b.length)<|G2 y2<|G2 (y2+1)<|G1 (i<=y0+1)<|G1 (0+(y0+1)<=(out.map K2).length)<|G1 y1<|bif (decide (y0+1<=y0+1)&&decide y1) then (Dw out i ((y0+1)-i) ((y0+1)-i) a (nth b i) 0).bind fun x0=>G2 ((i:Int)+1)<|some (.inl (i+1,x0)) else none else some (.inr out)
theorem Zt (a:List Int) (b:List Int):∀σ:Nat×List Int,aO Tryz.prog (nav [1,1,0,1,0,0] (aK Tryz.f199)) (fun (σ:Nat×List Int)=>aan a b σ.1 σ.2) (fun (_:List Int)=>(.exit 0)) (fun (y:List Int)=>ZJ a b y) σ (uH a b σ.1 σ.2)
 | (i,out)=>let y0:=(i+a.length)+1;aI 1010 (.br 100000019 (.op 40002 (.el K2 b (.up i)) (.op 50004 (.ln K2 a) (.op 60008 (.sb (.up i) (.up y0) (.up y0)) (.call [10] [] (XV out i (y0-i) (y0-i) a (nth b i) 0) .no fun x0=>G3 [0,5,16,17,18] [10] (.ret (.inl (i+1,x0))))))) (G3 [5] [10] (.ret (.inr out))))
def La (a:List Int) (b:List Int) (i:Nat) (out:List Int):Option (List Int):=aQ (fun (σ:Nat×List Int)=>uH a b σ.1 σ.2) FU (i,out)
def Y7 (a:List Int) (b:List Int) (i:Nat) (out:List Int):=
 aX (Zt a b) (fun _ h=>by cases h) FU (i,out)
def qU (a:List Int) (b:List Int):Option (List Int):=G2 ((a.length:Int)+(b.length:Int))<|G2 (((a.length:Int)+(b.length:Int))+1)<|G1 ((a.length+b.length)+1<=2147483648)<|(La a b 0 (List.replicate ((a.length+b.length)+1) 0)).bind fun x0=>(jv x0).bind fun x1=>some x1
theorem vk (a:List Int) (b:List Int):∀r,qU a b=some r->aj Tryz.prog 199 0 [SL K2 a,SL K2 b] [] (SL K2 r) []:=
 let y0:=(a.length+b.length)+1;ak 10 (.op 10002 (.ln K2 a) (.op 10006 (.ln K2 b) (.op 10012 (.mk K2 0 (.up y0)) (.op 20002 (.ln K2 b) (G4 [0,5,16,17,18] [10] (.lp1 0 (Y7 a b 0 (List.replicate y0 0)) fun x0=>.call [] [] (jm x0) .no fun x1=>.ret x1)))))) Tryz.func199
def YC (a:List Int) (n:Int) (x0:Int) (out:List Int) (i:Nat):St:=⟨40,0,[(0,SL K2 a),(6,I x0),(8,SL K2 out),(30,I (mnI n 1)),(31,I (i:Int))],[]⟩
def ZW (a:List Int) (n:Int) (x0:Int) (out:List Int):St:=⟨40,0,[(8,SL K2 out)],[]⟩
def lQ (a:List Int) (n:Int) (x0:Int) (out:List Int) (i:Nat):Option ((List Int×Nat)⊕(List Int)):=bif decide ((i:Int)<(mnI n 1)) then G1 (0<=x0)<|G1 (0<=x0.toNat)<|G1 (x0.toNat<=a.length)<|(qU out (a.take x0.toNat)).bind fun x3=>G2 ((i:Int)+1)<|some (.inl (x3,i+1)) else some (.inr out)
theorem Yv (a:List Int) (n:Int) (x0:Int):∀σ:List Int×Nat,aO Tryz.prog (nav [1,1,1,1,1,1,0,1,0,0] (aK Tryz.f230)) (fun (σ:List Int×Nat)=>YC a n x0 σ.1 σ.2) (fun (_:List Int)=>(.exit 0)) (fun (y:List Int)=>ZW a n x0 y) σ (lQ a n x0 σ.1 σ.2)
 | (out,i)=>aI 1010 (.br 100000032 (.op 100006 (.sl K2 a 1 (fun _=>rfl) (.up 0) .dn) (.call [] [] (vk out (a.take x0.toNat)) .no fun x3=>G3 [0,6,8,30,31] [] (.ret (.inl (x3,i+1))))) (G3 [8] [] (.ret (.inr out))))
def Fq (a:List Int) (n:Int) (x0:Int) (out:List Int) (i:Nat):Option (List Int):=aQ (fun (σ:List Int×Nat)=>lQ a n x0 σ.1 σ.2) FU (out,i)
def Mc (a:List Int) (n:Int) (x0:Int) (out:List Int) (i:Nat):=
 aX (Yv a n x0) (fun _ h=>by cases h) FU (out,i)
def U4 (a:List Int) (n:Int) (x0:Int) (out:List Int) (i:Nat):St:=⟨40,0,[(0,SL K2 a),(6,I x0),(8,SL K2 out),(30,I n),(31,I (i:Int))],[]⟩
def Um (a:List Int) (n:Int) (x0:Int) (out:List Int):St:=⟨40,0,[(8,SL K2 out)],[]⟩
def pK (a:List Int) (n:Int) (x0:Int) (out:List Int) (i:Nat):Option ((List Int×Nat)⊕(List Int)):=bif decide ((i:Int)<n) then G1 (0<=x0)<|G1 (0<=x0.toNat)<|G1 (x0.toNat<=a.length)<|(qU out (a.take x0.toNat)).bind fun x3=>G2 ((i:Int)+1)<|some (.inl (x3,i+1)) else some (.inr out)
theorem Vd (a:List Int) (n:Int) (x0:Int):∀σ:List Int×Nat,aO Tryz.prog (nav [1,1,1,1,1,1,0,1,0,0] (aK Tryz.f230)) (fun (σ:List Int×Nat)=>U4 a n x0 σ.1 σ.2) (fun (_:List Int)=>(.exit 0)) (fun (y:List Int)=>Um a n x0 y) σ (pK a n x0 σ.1 σ.2)
 | (out,i)=>aI 1010 (.br 100000032 (.op 100006 (.sl K2 a 1 (fun _=>rfl) (.up 0) .dn) (.call [] [] (vk out (a.take x0.toNat)) .no fun x3=>G3 [0,6,8,30,31] [] (.ret (.inl (x3,i+1))))) (G3 [8] [] (.ret (.inr out))))
def Gh (a:List Int) (n:Int) (x0:Int) (out:List Int) (i:Nat):Option (List Int):=aQ (fun (σ:List Int×Nat)=>pK a n x0 σ.1 σ.2) FU (out,i)
def Io (a:List Int) (n:Int) (x0:Int) (out:List Int) (i:Nat):=
 aX (Vd a n x0) (fun _ h=>by cases h) FU (out,i)
def oW (a:List Int) (n:Int):Option (List Int×Bool):=(wK a).bind fun x0=>(nU a).bind fun x1=>bif decide (n<0) then some ([],false) else bif decide (x1>1) then G1 (0<=4096)<|G1 (0<x0)<|G1 (4096<=Go.Ab.hi .i64)<|bif decide (n>(4096/x0)) then some ([],false) else bif !(decide (x1>1)) then (xH 1).bind fun x2=>(Fq a n x0 x2 0).bind fun x3=>some (x3,true) else (xH 1).bind fun x2=>(Gh a n x0 x2 0).bind fun x3=>some (x3,true) else bif !(decide (x1>1)) then (xH 1).bind fun x2=>(Fq a n x0 x2 0).bind fun x3=>some (x3,true) else (xH 1).bind fun x2=>(Gh a n x0 x2 0).bind fun x3=>some (x3,true)
theorem zy (a:List Int) (n:Int):∀r,oW a n=some r->aj Tryz.prog 230 0 [SL K2 a,I n] [] (.tup [SL K2 r.1,B r.2]) []:=
 ak 10 (.call [] [] (tH a) .no fun x0=>.call [] [] (yC a) .no fun x1=>.br 30006 (.ps 1000003 [.n 4] (.ret ([],false))) (.br 30010 (.br 100000024 (.ps 1000003 [.n 4] (.ret ([],false))) (.br 100000026 (.call [] [] (pq 1) .no fun x2=>G4 [0,6,8,30,31] [] (.lp1 0 (Mc a n x0 x2 0) fun x3=>.ret (x3,true))) (.call [] [] (pq 1) .no fun x2=>G4 [0,6,8,30,31] [] (.lp1 0 (Io a n x0 x2 0) fun x3=>.ret (x3,true))))) (.br 100000026 (.call [] [] (pq 1) .no fun x2=>G4 [0,6,8,30,31] [] (.lp1 0 (Mc a n x0 x2 0) fun x3=>.ret (x3,true))) (.call [] [] (pq 1) .no fun x2=>G4 [0,6,8,30,31] [] (.lp1 0 (Io a n x0 x2 0) fun x3=>.ret (x3,true)))))) Tryz.func230
def VE (a:List Int) (d:Int) (r:Int) (i:Int) (q:List Int):St:=⟨37,0,[(0,SL K2 a),(1,NI .u32 d),(4,.msl 10 0 none (some a.length)),(5,NI .u32 r),(7,I i)],[(10,ROW 1 K2 q 0)]⟩
def Vt (a:List Int) (d:Int) (r:Int) (q:List Int):St:=⟨37,0,[(4,.msl 10 0 none (some a.length)),(5,NI .u32 r)],[(10,ROW 1 K2 q 0)]⟩
def pF (a:List Int) (d:Int) (r:Int) (i:Int) (q:List Int):Option ((Int×Int×List Int)⊕(Int×List Int)):=let y0:=i.toNat<q.length;bif decide (i>=0) then G1 (0<=i)<|G1 (i.toNat<a.length)<|(zu r (nth a i.toNat) d).bind fun x0=>G1 (0<=i)<|G1 y0<|G1 y0<|G2 (i-1)<|some (.inl (x0.2.1,i-1,q.set i.toNat x0.1)) else some (.inr (r,q))
theorem Uo (a:List Int) (d:Int):∀σ:Int×Int×List Int,aO Tryz.prog (nav [1,1,1,0,1,0,0] (aK Tryz.f231)) (fun (σ:Int×Int×List Int)=>VE a d σ.1 σ.2.1 σ.2.2) (fun (_:Int×List Int)=>(.exit 0)) (fun (y:Int×List Int)=>Vt a d y.1 y.2) σ (pF a d σ.1 σ.2.1 σ.2.2)
 | (r,i,q)=>aI 1010 (.br 100000017 (.op 70010 (.el K2 a .dn) (.call [] [] (L8 r (nth a i.toNat) d) .no fun x0=>.op 70026 (.el K2 q .dn) (.op 70028 (.st K2 q x0.1) (G3 [0,1,4,5,7] [10] (.ret (.inl (x0.2.1,i-1,q.set i.toNat x0.1))))))) (G3 [4,5] [10] (.ret (.inr (r,q)))))
def F9 (a:List Int) (d:Int) (r:Int) (i:Int) (q:List Int):Option (Int×List Int):=aQ (fun (σ:Int×Int×List Int)=>pF a d σ.1 σ.2.1 σ.2.2) FU (r,i,q)
def Vf (a:List Int) (d:Int) (r:Int) (i:Int) (q:List Int):=
 aX (Uo a d) (fun _ h=>by cases h) FU (r,i,q)
def pO (a:List Int) (d:Int):Option (List Int×Int×Bool):=let y0:=(a.length:Int)-1;bif d==0 then some ([],0,false) else G1 (a.length<=2147483648)<|G2 y0<|(F9 a d 0 y0 (List.replicate a.length 0)).bind fun x0=>(jv x0.2).bind fun x1=>some (x1,x0.1,true)
theorem sQ (a:List Int) (d:Int):∀r,pO a d=some r->aj Tryz.prog 231 0 [SL K2 a,NI .u32 d] [] (.tup [SL K2 r.1,NI .u32 r.2.1,B r.2.2]) []:=
 ak 10 (.br 100000009 (.ps 1000003 [.n 4] (.ret ([],0,false))) (.op 30002 (.ln K2 a) (.op 30004 (.mk K2 0 (.up a.length)) (.op 40002 (.ln K2 a) (G4 [0,1,4,5,7] [10] (.lp1 0 (Vf a d 0 ((a.length:Int)-1) (List.replicate a.length 0)) fun x0=>.call [] [] (jm x0.2) .no fun x1=>.ret (x1,x0.1,true))))))) Tryz.func231
def yw (tA:List Int) (a:List Int):Option (List Int×List Int×Bool):=(jv a).bind fun x0=>bif (x0.length:Int)==0 then some ([],[],false) else G2 ((x0.length:Int)-1)<|G1 (0<=(x0.length:Int)-1)<|G1 (((x0.length:Int)-1).toNat<x0.length)<|(xX (nth x0 (((x0.length:Int)-1).toNat))).bind fun x1=>G2 (32-x1)<|(AV tA (32-x1)).bind fun x2=>(AV x0 (32-x1)).bind fun x3=>G1 (x2.length<=2147483648)<|G2 ((x2.length:Int)-1)<|(FI x1 x2 x3 [] ((x2.length:Int)-1) (List.replicate x2.length 0)).bind fun x4=>(oW [2] (32-x1)).bind fun x5=>G1 (0<x5.1.length)<|(pO x4.1 (nth x5.1 0)).bind fun x6=>(jv x4.2).bind fun x7=>some (x7,x6.1,true)
theorem Iz (tA:List Int) (a:List Int):∀r,yw tA a=some r->aj Tryz.prog 174 0 [SL K2 tA,SL K2 a] [] (.tup [SL K2 r.1,SL K2 r.2.1,B r.2.2]) []:=
 ak 10 (.call [] [] (jm a) .no fun x0=>.op 20002 (.ln K2 x0) (.br 100000015 (.ps 1000003 [.n 4,.n 5] (.ret ([],[],false))) (.op 40004 (.ln K2 x0) (.op 40008 (.el K2 x0 .dn) (.call [] [] (Rk (nth x0 (((x0.length:Int)-1).toNat))) .no fun x1=>.call [] [] (Kz tA (32-x1)) .no fun x2=>.call [] [] (Kz x0 (32-x1)) .no fun x3=>.op 60002 (.ln K2 x2) (.op 60004 (.mk K2 0 (.up x2.length)) (.op 70002 (.ln K2 x2) (.ps 1000001 [.n 5,.k [0,1,4,5,7,8] [10]] (.lp1 0 (aao x1 x2 x3 [] ((x2.length:Int)-1) (List.replicate x2.length 0)) fun x4=>.call [] [] (zy [2] (32-x1)) .no fun x5=>.op 120004 (.el K2 x5.1 (.up 0)) (.call [] [] (sQ x4.1 (nth x5.1 0)) .no fun x6=>.call [] [] (jm x4.2) .no fun x7=>.ret (x7,x6.1,true))))))))))) Tryz.func174
end Go.Ab.M
