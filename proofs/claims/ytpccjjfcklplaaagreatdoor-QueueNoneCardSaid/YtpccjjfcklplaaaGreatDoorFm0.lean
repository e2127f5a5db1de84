/- What is told of the functions, shown: . -/
import Derived.Test.YtpccjjfcklplaaaGreatDoorTab
